/- The abstract executor: a call whose text is known and that ends in an error, run once. -/
import Derived.Test.YtgmndgnhejdnaaaGreatDoorAxE
namespace Go.AX
open Go.RowKit
noncomputable section
def baseIn (ev pt et size n : Nat) (sg : Nat → Bool) (s : Nat → Nat × Nat) (l : List Tab) (gh rt tid : Nat) (h : AH) : Bool := band (sentsIn ev pt et (size + 1) sg s h n) (band (allB (tabIn h) l) (onSome (isHand rt size tid) (Q.get (pathOf gh) h.tr)))
def atO (te ip : Nat) (pos : Int) (sid : Id) : AO := .box te false [.int .i64 pos, .iface ip (.ptr sid 0)]
def isAt (te ip : Nat) (pos : Int) (sid : Id) (o : AO) : Bool := match o with
  | .box e false [.int .i64 p, .iface t (.ptr b 0)] => band (Nat.beq e te) (band (intEq p pos) (band (Nat.beq t ip) (idEq b sid)))
  | _ => false
theorem mem_base {P : Program} {ρ : Rho} {h : AH} {w : World} {ev pt et n gh ev' rt tid : Nat} {sg : Nat → Bool} {s : Nat → Nat × Nat} {l : List Tab} (m : Mem P ρ h w) (hb : baseIn ev pt et P.globals.size n sg s l gh rt tid h = true) (hlt : ∀ e ∈ l, e.g < P.globals.size) (hg : gh < P.globals.size) (_hlg : ∀ e ∈ l, e.g ≠ gh) :
    Mem P (rhoCut (P.globals.size + 1 + n) ρ) (h03 ev pt et P.globals.size n sg s l gh ev' rt tid) w ∧ ∀ p ob, Q.get p (h03 ev pt et P.globals.size n sg s l gh ev' rt tid).tr = some ob → ob.ro = true ∧ num p < P.globals.size + 1 + n ∧ ∃ ob', Q.get p h.tr = some ob' ∧ ob'.ro = true := by
  unfold baseIn at hb
  simp only [band_eq, Bool.and_eq_true] at hb
  obtain ⟨b1, b2, b3⟩ := hb
  obtain ⟨m0, w0, f0⟩ := mem_cutT (ev := ev) (pt := pt) (et := et) (n := n) (sg := sg) (s := s) m b1 b2 hlt
  obtain ⟨oh, q1, q2⟩ := onSome_eq b3
  have hin := sentsIn_eq b1
  have tin : ∀ e ∈ l, Q.get (pathOf e.g) h.tr = some e.box := by
    intro e he
    obtain ⟨ob, h1, h2⟩ := onSome_eq (allB_eq b2 e he)
    rw [h1, ← objSame_eq h2]
  have cut : ∀ p k, rhoCut (P.globals.size + 1 + n) ρ p = some k → ρ p = some k := by
    intro p k hk
    unfold rhoCut at hk
    split at hk
    · exact hk
    · cases hk
  have keep : ∀ p, num p < P.globals.size + 1 + n → rhoCut (P.globals.size + 1 + n) ρ p = ρ p := fun p hp => by unfold rhoCut; rw [if_pos hp]
  obtain ⟨e1, hoh⟩ : ∃ e1, oh = .box e1 true [.iface rt (.agg [.ptr (pathOf P.globals.size) tid])] := by
    unfold isHand at q2
    split at q2
    · simp only [band_eq, Bool.and_eq_true, natBeq_eq] at q2
      obtain ⟨rfl, q3, rfl⟩ := q2
      rw [idEq_eq q3]
      exact ⟨_, rfl⟩
    · cases q2
  subst hoh
  have get : ∀ p ob, Q.get p (h03 ev pt et P.globals.size n sg s l gh ev' rt tid).tr = some ob → (p = pathOf gh ∧ ob = handO ev' rt P.globals.size tid) ∨ (p ≠ pathOf gh ∧ Q.get p (addT l (h00 ev pt et (P.globals.size + 1) n sg s)).tr = some ob) := by
    intro p ob hp
    have hp : Q.get p (Q.set (pathOf gh) (some (handO ev' rt P.globals.size tid)) (addT l (h00 ev pt et (P.globals.size + 1) n sg s)).tr) = some ob := hp
    rw [Q.get_set] at hp
    split at hp
    · rename_i e; cases hp; exact .inl ⟨e, rfl⟩
    · rename_i e; exact .inr ⟨e, hp⟩
  have sub : ∀ p ob, Q.get p (addT l (h00 ev pt et (P.globals.size + 1) n sg s)).tr = some ob → Q.get p h.tr = some ob ∧ ob.ro = true ∧ num p < P.globals.size + 1 + n := by
    intro p ob hp
    rcases addT_get hp with ⟨e, he, rfl, rfl⟩ | hp
    · exact ⟨tin e he, rfl, by rw [num_pathOf]; have := hlt e he; omega⟩
    · obtain ⟨g, hg, ⟨rfl, rfl⟩ | ⟨rfl, rfl⟩⟩ := h00_get hp
      · refine ⟨(hin g hg.1 hg.2).1, rfl, ?_⟩
        have := m0.wf _ _ (show Q.get (pathOf g) (addT l (h00 ev pt et (P.globals.size + 1) n sg s)).tr = _ from by
          rename_i hq; exact hq)
        rw [addT_nx] at this
        unfold h00 at this
        rw [sents_nx] at this
        have this : num (pathOf g) < num (pathOf (P.globals.size + 1 + n)) := this
        rw [num_pathOf, num_pathOf] at this
        rw [num_pathOf]; exact this
      · refine ⟨(hin g hg.1 hg.2).2, rfl, ?_⟩
        rw [num_pathOf]; have := hg.1; omega
  refine ⟨⟨fun p ob k hp hk => ?_, fun p p' ob ob' k k' hp hp' hk hk' hne => ?_, m0.glob, fun p ob hp => ?_⟩, fun p ob hp => ?_⟩
  · rcases get p ob hp with ⟨rfl, rfl⟩ | ⟨_, hp⟩
    · obtain ⟨cs, e', z, h1, h2, h3, h4⟩ := m.obj _ _ k q1 (cut _ _ hk)
      refine ⟨cs, e', z, h1, h2, ⟨fun h => (by cases h), h3.2⟩, fun i v hv => ?_⟩
      obtain ⟨g1, g2, x, g3, g4⟩ := h4 i v hv
      refine ⟨g1, g2, x, g3, ?_⟩
      cases i with
      | zero =>
        simp at hv; subst hv
        obtain ⟨c, hc⟩ := m.glob P.globals.size (by omega)
        have e2 : den ρ (.ptr (pathOf P.globals.size) tid) = den (rhoCut (P.globals.size + 1 + n) ρ) (.ptr (pathOf P.globals.size) tid) := by
          simp only [den]
          rw [keep _ (by rw [num_pathOf]; omega)]
        simp only [den, denL] at g4 e2 ⊢
        rw [← e2]
        exact g4
      | succ i => simp at hv
    · exact m0.obj p ob k hp hk
  · rcases get p ob hp with ⟨rfl, rfl⟩ | ⟨hn1, hp⟩ <;> rcases get p' ob' hp' with ⟨rfl, rfl⟩ | ⟨hn2, hp'⟩
    · exact absurd rfl hne
    · obtain ⟨h1, h2, _⟩ := sub p' ob' hp'
      rcases m.apart _ p' _ ob' k k' q1 h1 (cut _ _ hk) (cut _ _ hk') hne with h | ⟨_, _, h⟩
      · exact .inl h
      · exact .inr ⟨rfl, h2, h⟩
    · obtain ⟨h1, h2, _⟩ := sub p ob hp
      rcases m.apart p _ ob _ k k' h1 q1 (cut _ _ hk) (cut _ _ hk') hne with h | ⟨_, _, h⟩
      · exact .inl h
      · exact .inr ⟨h2, rfl, h⟩
    · exact m0.apart p p' ob ob' k k' hp hp' hk hk' hne
  · show num p < num (pathOf (P.globals.size + 1 + n))
    rw [num_pathOf]
    rcases get p ob hp with ⟨rfl, rfl⟩ | ⟨_, hp⟩
    · rw [num_pathOf]; omega
    · exact (sub p ob hp).2.2
  · rcases get p ob hp with ⟨rfl, rfl⟩ | ⟨_, hp⟩
    · exact ⟨rfl, by rw [num_pathOf]; omega, _, q1, rfl⟩
    · obtain ⟨h1, h2, h3⟩ := sub p ob hp
      exact ⟨h2, h3, ob, h1, h2⟩
end
end Go.AX
/- The abstract executor: values and objects whose blocks are told by other numbers. -/
namespace Go.AX
open Go.RowKit
mutual
def renV (r : Id → Option Id) : AV → Option AV
  | .bool b => some (.bool b)
  | .int k n => some (.int k n)
  | .float k n => some (.float k n)
  | .str l v => some (.str l v)
  | .nilp => some .nilp
  | .ptr b o => (r b).map fun b' => .ptr b' o
  | .slc0 => some .slc0
  | .slc b o n c => (r b).map fun b' => .slc b' o n c
  | .slcE b o0 o1 k => (r b).map fun b' => .slcE b' o0 o1 k
  | .map0 => some .map0
  | .map b => (r b).map fun b' => .map b'
  | .func f a c => (renL r a).bind fun a' => (renL r c).map fun c' => .func f a' c'
  | .nilFunc => some .nilFunc
  | .iface t v => (renV r v).map fun v' => .iface t v'
  | .nilIface => some .nilIface
  | .agg l => (renL r l).map fun l' => .agg l'
  | .tuple l => (renL r l).map fun l' => .tuple l'
  | .sym _ _ => none
  | .symB _ _ => none
  | .strL _ => none
  | .anyI _ => none
def renL (r : Id → Option Id) : List AV → Option (List AV)
  | [] => some []
  | v :: l => (renV r v).bind fun v' => (renL r l).map fun l' => v' :: l'
end
def RenOk (r : Id → Option Id) (ρ ρ' : Rho) : Prop := ∀ b b', r b = some b' → ρ' b' = ρ b
mutual
theorem renV_one {r : Id → Option Id} : ∀ {v v' : AV}, renV r v = some v' → oneV v' = oneV v
  | .bool _, _, h => by cases h; rfl
  | .int _ _, _, h => by cases h; rfl
  | .float _ _, _, h => by cases h; rfl
  | .str _ _, _, h => by cases h; rfl
  | .nilp, _, h => by cases h; rfl
  | .ptr b o, _, h => by
    simp only [renV, Option.map_eq_some_iff] at h
    obtain ⟨b', _, rfl⟩ := h; rfl
  | .slc0, _, h => by cases h; rfl
  | .slc b o n c, _, h => by
    simp only [renV, Option.map_eq_some_iff] at h
    obtain ⟨b', _, rfl⟩ := h; rfl
  | .slcE b o0 o1 k, _, h => by
    simp only [renV, Option.map_eq_some_iff] at h
    obtain ⟨b', _, rfl⟩ := h; rfl
  | .map0, _, h => by cases h; rfl
  | .map b, _, h => by
    simp only [renV, Option.map_eq_some_iff] at h
    obtain ⟨b', _, rfl⟩ := h; rfl
  | .func f a c, _, h => by
    simp only [renV, Option.map_eq_some_iff, Option.bind_eq_some_iff] at h
    obtain ⟨a', _, c', _, rfl⟩ := h; rfl
  | .nilFunc, _, h => by cases h; rfl
  | .iface t v, _, h => by
    simp only [renV, Option.map_eq_some_iff] at h
    obtain ⟨b', _, rfl⟩ := h; rfl
  | .nilIface, _, h => by cases h; rfl
  | .agg l, _, h => by
    simp only [renV, Option.map_eq_some_iff] at h
    obtain ⟨b', _, rfl⟩ := h; rfl
  | .tuple l, _, h => by
    simp only [renV, Option.map_eq_some_iff] at h
    obtain ⟨b', _, rfl⟩ := h; rfl
  | .sym _ _, _, h => by cases h
  | .symB _ _, _, h => by cases h
  | .strL _, _, h => by cases h
  | .anyI _, _, h => by cases h
end
theorem renL_all {r : Id → Option Id} : ∀ {l l' : List AV}, renL r l = some l' → l'.all oneV = l.all oneV
  | [], _, h => by cases h; rfl
  | v :: l, _, h => by
    simp only [renL, Option.map_eq_some_iff, Option.bind_eq_some_iff] at h
    obtain ⟨v', h1, l', h2, rfl⟩ := h
    simp only [List.all_cons, renV_one h1, renL_all h2]
mutual
theorem renV_den {r : Id → Option Id} {ρ ρ' : Rho} (hr : RenOk r ρ ρ') : ∀ {v v' : AV}, renV r v = some v' → den ρ' v' = den ρ v
  | .bool _, _, h => by cases h; simp only [den]
  | .int _ _, _, h => by cases h; simp only [den]
  | .float _ _, _, h => by cases h; simp only [den]
  | .str _ _, _, h => by cases h; simp only [den]
  | .nilp, _, h => by cases h; simp only [den]
  | .ptr b o, _, h => by
    simp only [renV, Option.map_eq_some_iff] at h
    obtain ⟨b', h1, rfl⟩ := h
    simp only [den, hr _ _ h1]
  | .slc0, _, h => by cases h; simp only [den]
  | .slc b o n (.exact c), _, h => by
    simp only [renV, Option.map_eq_some_iff] at h
    obtain ⟨b', h1, rfl⟩ := h
    simp only [den, hr _ _ h1]
  | .slc b o n (.room c), _, h => by
    simp only [renV, Option.map_eq_some_iff] at h
    obtain ⟨b', h1, rfl⟩ := h
    simp only [den, hr _ _ h1]
  | .slcE b o0 o1 k, _, h => by
    simp only [renV, Option.map_eq_some_iff] at h
    obtain ⟨b', h1, rfl⟩ := h
    simp only [den, hr _ _ h1]
  | .map0, _, h => by cases h; simp only [den]
  | .map b, _, h => by
    simp only [renV, Option.map_eq_some_iff] at h
    obtain ⟨b', h1, rfl⟩ := h
    simp only [den, hr _ _ h1]
  | .func f a c, _, h => by
    simp only [renV, Option.map_eq_some_iff, Option.bind_eq_some_iff] at h
    obtain ⟨a', h1, c', h2, rfl⟩ := h
    simp only [den, renL_den hr h1, renL_den hr h2]
  | .nilFunc, _, h => by cases h; simp only [den]
  | .iface t v, _, h => by
    simp only [renV, Option.map_eq_some_iff] at h
    obtain ⟨v', h1, rfl⟩ := h
    simp only [den, renV_den hr h1]
  | .nilIface, _, h => by cases h; simp only [den]
  | .agg l, _, h => by
    simp only [renV, Option.map_eq_some_iff] at h
    obtain ⟨l', h1, rfl⟩ := h
    simp only [den, renL_den hr h1, renL_all h1]
  | .tuple l, _, h => by
    simp only [renV, Option.map_eq_some_iff] at h
    obtain ⟨l', h1, rfl⟩ := h
    simp only [den, renL_den hr h1]
  | .sym _ _, _, h => by cases h
  | .symB _ _, _, h => by cases h
  | .strL _, _, h => by cases h
  | .anyI _, _, h => by cases h
theorem renL_den {r : Id → Option Id} {ρ ρ' : Rho} (hr : RenOk r ρ ρ') : ∀ {l l' : List AV}, renL r l = some l' → denL ρ' l' = denL ρ l
  | [], _, h => by cases h; simp only [denL]
  | v :: l, _, h => by
    simp only [renL, Option.map_eq_some_iff, Option.bind_eq_some_iff] at h
    obtain ⟨v', h1, l', h2, rfl⟩ := h
    simp only [denL, renV_den hr h1, renL_den hr h2]
end
theorem renL_len {r : Id → Option Id} : ∀ {l l' : List AV}, renL r l = some l' → l'.length = l.length
  | [], _, h => by cases h; rfl
  | v :: l, _, h => by
    simp only [renL, Option.map_eq_some_iff, Option.bind_eq_some_iff] at h
    obtain ⟨v', h1, l', h2, rfl⟩ := h
    simp [renL_len h2]
def RenAt (r : Id → Option Id) (x x' : Option AV) : Prop := (x = none ∧ x' = none) ∨ ∃ v v', x = some v ∧ x' = some v' ∧ renV r v = some v'
theorem renL_get {r : Id → Option Id} : ∀ {l l' : List AV}, renL r l = some l' → ∀ i : Nat, RenAt r l[i]? l'[i]?
  | [], _, h, i => by cases h; exact .inl ⟨by simp, by simp⟩
  | v :: l, _, h, i => by
    simp only [renL, Option.map_eq_some_iff, Option.bind_eq_some_iff] at h
    obtain ⟨v', h1, l', h2, rfl⟩ := h
    cases i with
    | zero => exact .inr ⟨v, v', by simp, by simp, h1⟩
    | succ i => simpa using renL_get h2 i
def renOpt (r : Id → Option Id) : Option (List AV) → Option (Option (List AV))
  | none => some none
  | some l => (renL r l).map some
def renQ (r : Id → Option Id) : Q (List AV) → Option (Q (List AV))
  | .nil => some .nil
  | .node v a b c d => (renOpt r v).bind fun v' => (renQ r a).bind fun a' => (renQ r b).bind fun b' => (renQ r c).bind fun c' => (renQ r d).map fun d' => .node v' a' b' c' d'
def renO (r : Id → Option Id) : AO → Option AO
  | .box e ro c => (renL r c).map fun c' => .box e ro c'
  | .cells e ro op es size fr c => (renQ r c).map fun c' => .cells e ro op es size fr c'
  | .map _ _ => none
theorem renO_ro {r : Id → Option Id} {o o' : AO} (h : renO r o = some o') : o'.ro = o.ro := by
  cases o with
  | box e ro c =>
    simp only [renO, Option.map_eq_some_iff] at h
    obtain ⟨c', _, rfl⟩ := h; rfl
  | cells e ro op es size fr c =>
    simp only [renO, Option.map_eq_some_iff] at h
    obtain ⟨c', _, rfl⟩ := h; rfl
  | map es clock => cases h
theorem renQ_get {r : Id → Option Id} : ∀ {c c' : Q (List AV)}, renQ r c = some c' → ∀ p : Id, (Q.get p c = none ∧ Q.get p c' = none) ∨ ∃ l l', Q.get p c = some l ∧ Q.get p c' = some l' ∧ renL r l = some l'
  | .nil, _, h, p => by cases h; exact .inl ⟨by simp, by simp⟩
  | .node v a b c d, _, h, p => by
    simp only [renQ, Option.map_eq_some_iff, Option.bind_eq_some_iff] at h
    obtain ⟨v', h0, a', h1, b', h2, c', h3, d', h4, rfl⟩ := h
    cases p with
    | nil =>
      cases v with
      | none => cases h0; exact .inl ⟨rfl, rfl⟩
      | some l =>
        simp only [renOpt, Option.map_eq_some_iff] at h0
        obtain ⟨l', h0, rfl⟩ := h0
        exact .inr ⟨l, l', rfl, rfl, h0⟩
    | cons x p =>
      cases x with
      | k1 => exact renQ_get h1 p
      | k2 => exact renQ_get h2 p
      | k3 => exact renQ_get h3 p
      | k4 => exact renQ_get h4 p
theorem rowGet_ren {r : Id → Option Id} {c c' : Q (List AV)} {es : Nat} (h : renQ r c = some c') (i : Nat) : RenAt r (rowGet es c i) (rowGet es c' i) := by
  unfold rowGet
  rcases renQ_get h (pathOf (i / es)) with ⟨h1, h2⟩ | ⟨l, l', h1, h2, h3⟩
  · rw [h1, h2]; exact .inl ⟨rfl, rfl⟩
  · rw [h1, h2]; exact renL_get h3 _
theorem cells_ren {r : Id → Option Id} {ρ ρ' : Rho} (hr : RenOk r ρ ρ') {co ext : Nat} {cs : Array Value} {g g' : Nat → Option AV} (h : ∀ i, RenAt r (g i) (g' i)) : CellsOk ρ' co ext cs g' ↔ CellsOk ρ co ext cs g := by
  constructor
  · intro hc i v hv
    rcases h i with ⟨h1, _⟩ | ⟨u, u', h1, h2, h3⟩
    · rw [h1] at hv; cases hv
    · rw [h1] at hv; cases hv
      obtain ⟨a, b, x, c, d⟩ := hc i u' h2
      exact ⟨a, by rw [← renV_one h3]; exact b, x, c, by rw [← renV_den hr h3]; exact d⟩
  · intro hc i v hv
    rcases h i with ⟨_, h1⟩ | ⟨u, u', h2, h1, h3⟩
    · rw [h1] at hv; cases hv
    · rw [h1] at hv; cases hv
      obtain ⟨a, b, x, c, d⟩ := hc i u h2
      exact ⟨a, by rw [renV_one h3]; exact b, x, c, by rw [renV_den hr h3]; exact d⟩
theorem objOk_ren {r : Id → Option Id} {ρ ρ' : Rho} (hr : RenOk r ρ ρ') {o o' : AO} (h : renO r o = some o') {l : Loc} {w : World} : ObjOk ρ' l w o' ↔ ObjOk ρ l w o := by
  cases o with
  | box e ro c =>
    simp only [renO, Option.map_eq_some_iff] at h
    obtain ⟨c', h, rfl⟩ := h
    unfold ObjOk
    simp only [renL_len h, cells_ren hr (renL_get h)]
  | cells e ro op es size fr c =>
    simp only [renO, Option.map_eq_some_iff] at h
    obtain ⟨c', h, rfl⟩ := h
    unfold ObjOk
    simp only [cells_ren hr (rowGet_ren (es := es) h)]
  | map es clock => cases h
def roT : AO → AO
  | .box e _ c => .box e true c
  | .cells e _ op es size fr c => .cells e true op es size fr c
  | .map es clock => .map es clock
theorem objOk_ro {ρ : Rho} {l : Loc} {w : World} {o : AO} (h : ObjOk ρ l w o) : ObjOk ρ l w (roT o) := by
  cases o with
  | box e ro c =>
    obtain ⟨cs, e', z, h1, h2, h3, h4⟩ := h
    exact ⟨cs, e', z, h1, h2, ⟨fun h => (by cases h), h3.2⟩, h4⟩
  | cells e ro op es size fr c => exact h
  | map es clock => exact h
theorem roT_ro {o o' : AO} (h : objSame (roT o) o' = true) : o'.ro = true := by
  rw [← objSame_eq h]
  cases o with
  | map es clock => cases h
  | _ => rfl
end Go.AX
/- The abstract executor: a call whose end is known, with all that it leaves. -/
namespace Go.AX
open Go.RowKit
theorem num_cons (x : D) (r : Id) : num (x :: r) = x.val + 4 * num r := rfl
theorem D.val_pos (x : D) : 1 ≤ x.val ∧ x.val ≤ 4 := by cases x <;> exact ⟨by decide, by decide⟩
theorem num_inj : ∀ {p q : Id}, num p = num q → p = q
  | [], [], _ => rfl
  | [], y :: s, h => by rw [num_cons] at h; have := y.val_pos; simp only [num] at h; omega
  | x :: r, [], h => by rw [num_cons] at h; have := x.val_pos; simp only [num] at h; omega
  | x :: r, y :: s, h => by
    rw [num_cons, num_cons] at h
    have h1 := x.val_pos
    have h2 := y.val_pos
    have h3 : x.val = y.val := by omega
    have h4 : num r = num s := by omega
    have h5 : x = y := by cases x <;> cases y <;> first | rfl | (simp [D.val] at h3)
    rw [h5, num_inj h4]
noncomputable def allocL (l : List AO) (h : AH) : AH := List.rec (motive := fun _ => AH → AH) (fun h => h) (fun o _ ih h => ih (h.alloc o)) l h
theorem allocL_nx : ∀ (l : List AO) (h : AH), num (allocL l h).nx = num h.nx + l.length
  | [], h => rfl
  | o :: l, h => by
    show num (allocL l (h.alloc o)).nx = _
    rw [allocL_nx l, nx_alloc, List.length_cons]; omega
theorem allocL_get : ∀ (l : List AO) (h : AH) (p : Id), Q.get p (allocL l h).tr = if num h.nx ≤ num p ∧ num p < num h.nx + l.length then l[num p - num h.nx]? else Q.get p h.tr
  | [], h, p => by
    show Q.get p h.tr = _
    rw [if_neg (by simp only [List.length_nil]; omega)]
  | o :: l, h, p => by
    show Q.get p (allocL l (h.alloc o)).tr = _
    rw [allocL_get l, nx_alloc, List.length_cons]
    by_cases e : p = h.nx
    · subst e
      rw [if_neg (by omega), if_pos (by omega)]
      show Q.get h.nx (Q.set h.nx (some o) h.tr) = _
      rw [Q.get_set, if_pos rfl]
      simp
    · have hne : num p ≠ num h.nx := fun he => e (num_inj he)
      by_cases h1 : num h.nx + 1 ≤ num p ∧ num p < num h.nx + 1 + l.length
      · rw [if_pos h1, if_pos (by omega)]
        have : num p - num h.nx = (num p - (num h.nx + 1)) + 1 := by omega
        rw [this, List.getElem?_cons_succ]
      · rw [if_neg h1, if_neg (by omega)]
        show Q.get p (Q.set h.nx (some o) h.tr) = _
        rw [Q.get_set, if_neg e]
theorem Mem.merge {P : Program} {ρ ρ' : Rho} {h h' : AH} {w w' : World} (m : Mem P ρ h w) (hle : ρ.le ρ') (hdom : ∀ b, ρ' b ≠ none → ρ b ≠ none ∨ (num h.nx ≤ num b ∧ num b < num h'.nx)) (hnx : num h.nx ≤ num h'.nx)
    (ho : w'.os = w.os) (ht : w'.tape = w.tape) (hu : w'.output = w.output) (hs : w.heap.size ≤ w'.heap.size) (hb : ∀ k, k < w.heap.size → w'.heap[k]? = w.heap[k]?)
    (hold : ∀ p, ¬ (num h.nx ≤ num p ∧ num p < num h'.nx) → Q.get p h'.tr = Q.get p h.tr)
    (hnew : ∀ p ob k, num h.nx ≤ num p → num p < num h'.nx → Q.get p h'.tr = some ob → ρ' p = some k → ObjOk ρ' k w' ob ∧ w.heap.size ≤ k.cb)
    (hap : ∀ p p' ob ob' k k', num h.nx ≤ num p → num p < num h'.nx → num h.nx ≤ num p' → num p' < num h'.nx → Q.get p h'.tr = some ob → Q.get p' h'.tr = some ob' → ρ' p = some k → ρ' p' = some k' → p ≠ p' → k.cb ≠ k'.cb) :
    Mem P ρ' h' w' ∧ Step ρ h w ρ' h' w' := by
  have get : ∀ p ob k, Q.get p h'.tr = some ob → ρ' p = some k → (num h.nx ≤ num p ∧ num p < num h'.nx) ∨ (¬ (num h.nx ≤ num p ∧ num p < num h'.nx) ∧ Q.get p h.tr = some ob ∧ ρ p = some k) := by
    intro p ob k hp hk
    by_cases hn : num h.nx ≤ num p ∧ num p < num h'.nx
    · exact .inl hn
    · refine .inr ⟨hn, by rw [← hold p hn]; exact hp, ?_⟩
      rcases hdom p (by rw [hk]; exact fun h => by cases h) with h1 | h1
      · cases hq : ρ p with
        | none => exact absurd hq h1
        | some k2 => rw [hle _ _ hq] at hk; cases hk; rfl
      · exact absurd h1 hn
  refine ⟨⟨fun p ob k hp hk => ?_, fun p p' ob ob' k k' hp hp' hk hk' hne => ?_, m.glob_le hle, fun p ob hp => ?_⟩, ⟨hle, hdom, hnx, ho, ht, hu, hs, fun cb hcb _ => hb cb hcb, fun cb hcb => ?_, fun cb hcb => ?_, fun p _ hn => hold p hn⟩⟩
  · rcases get p ob k hp hk with h1 | ⟨_, h2, h3⟩
    · exact (hnew p ob k h1.1 h1.2 hp hk).1
    · have := m.obj p ob k h2 h3
      exact ObjOk.mono hle (hb _ this.lt) this
  · rcases get p ob k hp hk with h1 | ⟨_, h2, h3⟩ <;> rcases get p' ob' k' hp' hk' with h1' | ⟨_, h2', h3'⟩
    · exact .inl (hap p p' ob ob' k k' h1.1 h1.2 h1'.1 h1'.2 hp hp' hk hk' hne)
    · have a := (hnew p ob k h1.1 h1.2 hp hk).2
      have b := (m.obj p' ob' k' h2' h3').lt
      exact .inl (by omega)
    · have a := (hnew p' ob' k' h1'.1 h1'.2 hp' hk').2
      have b := (m.obj p ob k h2 h3).lt
      exact .inl (by omega)
    · exact m.apart p p' ob ob' k k' h2 h2' h3 h3' hne
  · by_cases hn : num h.nx ≤ num p ∧ num p < num h'.nx
    · exact hn.2
    · rw [hold p hn] at hp
      have := m.wf p ob hp
      omega
  · obtain ⟨p, ob, k, h1, h2, h3, rfl⟩ := hcb
    rcases get p ob k h1 h3 with g | ⟨_, g2, g3⟩
    · exact .inr (hnew p ob k g.1 g.2 h1 h3).2
    · exact .inl ⟨p, ob, k, g2, h2, g3, rfl⟩
  · obtain ⟨p, ob, k, h1, h3, rfl⟩ := hcb
    rcases get p ob k h1 h3 with g | ⟨_, g2, g3⟩
    · exact .inr (hnew p ob k g.1 g.2 h1 h3).2
    · exact .inl ⟨p, ob, k, g2, g3, rfl⟩
end Go.AX
/- The abstract executor: a table of calls whose ends are known, as a contract. -/
namespace Go.AX
open Go.RowKit
noncomputable section
structure ME where
  args : List AV
  ext : List AO
  v : AV
  news : List (Id × AO)
def bindId (K : Nat) (b b' : Id) (bs : List Id) : List Id := bsel (Nat.beq (num b) (K + len bs)) (bs ++ [b']) bs
def bindV (K : Nat) (v u : AV) (bs : List Id) : List Id := match v, u with
  | .ptr b _, .ptr b' _ => bindId K b b' bs
  | .slc b _ _ _, .slc b' _ _ _ => bindId K b b' bs
  | .iface _ (.ptr b _), .iface _ (.ptr b' _) => bindId K b b' bs
  | _, _ => bs
def bindF (K : Nat) : List AV → List AV → List Id → List Id
  | v :: l, u :: m, bs => bindF K l m (bindV K v u bs)
  | _, _, bs => bs
def bindL (K : Nat) : List AV → List AV → List Id → List Id
  | .agg l :: r, .agg m :: s, bs => bindL K r s (bindF K l m bs)
  | v :: l, u :: m, bs => bindL K l m (bindV K v u bs)
  | _, _, bs => bs
def bindQ (K : Nat) : Q (List AV) → Q (List AV) → List Id → List Id
  | .node v a b c d, .node v' a' b' c' d', bs => bindQ K d d' (bindQ K c c' (bindQ K b b' (bindQ K a a' (match v, v' with
    | some l, some m => bindF K l m bs
    | _, _ => bs))))
  | _, _, bs => bs
def bindO (K : Nat) (o o' : AO) (bs : List Id) : List Id := match o, o' with
  | .box _ _ l, .box _ _ m => bindF K l m bs
  | .cells _ _ _ _ _ _ c, .cells _ _ _ _ _ _ c' => bindQ K c c' bs
  | _, _ => bs
def bindE (K : Nat) (h : AH) : List AO → Nat → List Id → List Id
  | [], _, bs => bs
  | o :: l, j, bs => bindE K h l (j + 1) (match nth j bs with
    | some b => match Q.get b h.tr with
      | some o' => bindO K o o' bs
      | none => bs
    | none => bs)
def baseR (K : Nat) (bs : List Id) (p : Id) : Option Id := bsel (Nat.ble (num p + 1) K) (some p) (nth (num p - K) bs)
def newAt : List (Id × AO) → Id → Id → Option Id
  | [], _, _ => none
  | q :: l, nx, p => bsel (idEq q.1 p) (some nx) (newAt l (succ nx) p)
def afterR (K : Nat) (bs : List Id) (news : List (Id × AO)) (nx p : Id) : Option Id := bsel (Nat.ble (num p + 1) (K + len bs)) (baseR K bs p) (newAt news nx p)
def renOL (r : Id → Option Id) : List (Id × AO) → Option (List AO)
  | [] => some []
  | q :: l => (renO r q.2).bind fun o' => (renOL r l).map fun l' => o' :: l'
def extSame (r : Id → Option Id) (h : AH) : List AO → List Id → Bool
  | [], [] => true
  | o :: l, b :: bs => band (onSome (fun oh => match renO r o with
    | some o' => objSame (roT oh) o'
    | none => false) (Q.get b h.tr)) (extSame r h l bs)
  | _, _ => false
def freshIds : List Id → Bool
  | [] => true
  | b :: l => band (allB (fun c => bnot (idEq b c)) l) (freshIds l)
def sameOpt (x : Option (List AV)) (l : List AV) : Bool := match x with
  | some m => aggSameL m l
  | none => false
def tryB (base : AH → Bool) (K : Nat) (e : ME) (bs : List Id) (args : List AV) (h : AH) : Option (AV × AH) :=
  bsel (band (sameOpt (renL (baseR K bs) e.args) args) (band (Nat.ble K (num h.nx)) (band (base h) (band (allB (fun b => Nat.ble K (num b)) bs) (band (freshIds bs) (extSame (baseR K bs) h e.ext bs))))))
    ((renV (afterR K bs e.news h.nx) e.v).bind fun v => (renOL (afterR K bs e.news h.nx) e.news).map fun l => (v, allocL l h)) none
def tryE (base : AH → Bool) (K : Nat) (e : ME) (args : List AV) (h : AH) : Option (AV × AH) := tryB base K e (bindE K h e.ext 0 (bindL K e.args args [])) args h
def memoRun (call : List AV → AH → R (AV × AH)) (H : AH) (e : ME) : Bool := band (freshIds (e.news.map Prod.fst)) (match call e.args (allocL e.ext H) with
  | .ok (v, h1) => band (avSame v e.v) (allB (fun q => onSome (fun o => band (objSame o q.2) (bnot o.ro)) (Q.get q.1 h1.tr)) e.news)
  | .err _ => false)
def memoX (base : AH → Bool) (K : Nat) (a : AFn) (es : List ME) : CallH → List AV → AH → R (AV × AH) := fun ih args h => List.rec (motive := fun _ => R (AV × AH)) (runFn ih noCall a args h) (fun e _ rest => Option.rec (motive := fun _ => R (AV × AH)) rest (fun x => .ok x) (tryE base K e args h)) es
theorem freshIds_ne : ∀ {l : List Id}, freshIds l = true → ∀ (i j : Nat) (b c : Id), l[i]? = some b → l[j]? = some c → i ≠ j → b ≠ c
  | [], _, i, j, b, c, hi, _, _ => by simp at hi
  | a :: l, h, i, j, b, c, hi, hj, hne => by
    simp only [freshIds, band_eq, Bool.and_eq_true] at h
    have key : ∀ d, d ∈ l → a ≠ d := fun d hd e => by
      have := allB_eq h.1 d hd
      rw [e, idEq_refl] at this
      cases this
    cases i with
    | zero =>
      simp at hi; subst hi
      cases j with
      | zero => exact absurd rfl hne
      | succ j => exact key c (List.mem_of_getElem? (by simpa using hj))
    | succ i =>
      cases j with
      | zero => simp at hj; subst hj; exact (key b (List.mem_of_getElem? (by simpa using hi))).symm
      | succ j => exact freshIds_ne h.2 i j b c (by simpa using hi) (by simpa using hj) (by omega)
theorem extSame_eq {r : Id → Option Id} {h : AH} : ∀ {l : List AO} {bs : List Id}, extSame r h l bs = true → l.length = bs.length ∧ ∀ (j : Nat) (o : AO) (b : Id), l[j]? = some o → bs[j]? = some b → ∃ oh, Q.get b h.tr = some oh ∧ renO r o = some (roT oh) ∧ o.ro = true
  | [], [], _ => ⟨rfl, fun j o b hj _ => by simp at hj⟩
  | [], _ :: _, h => by cases h
  | _ :: _, [], h => by cases h
  | o :: l, b :: bs, h => by
    simp only [extSame, band_eq, Bool.and_eq_true] at h
    obtain ⟨h1, h2⟩ := h
    obtain ⟨i1, i2⟩ := extSame_eq h2
    refine ⟨by simp [i1], fun j o' b' hj hb => ?_⟩
    cases j with
    | zero =>
      simp at hj hb; subst hj; subst hb
      obtain ⟨oh, g1, g2⟩ := onSome_eq h1
      split at g2
      · rename_i o2 e
        have := roT_ro g2
        rw [renO_ro e] at this
        exact ⟨oh, g1, by rw [e, objSame_eq g2], this⟩
      · cases g2
    | succ j => exact i2 j o' b' (by simpa using hj) (by simpa using hb)
theorem newAt_eq : ∀ {l : List (Id × AO)} {nx p p' : Id}, newAt l nx p = some p' → ∃ i q, l[i]? = some q ∧ q.1 = p ∧ num p' = num nx + i
  | [], _, _, _, h => by cases h
  | q :: l, nx, p, p', h => by
    simp only [newAt, bsel_eq] at h
    split at h
    · rename_i e
      cases h
      exact ⟨0, q, rfl, idEq_eq e, rfl⟩
    · obtain ⟨i, q', h1, h2, h3⟩ := newAt_eq h
      exact ⟨i + 1, q', by simpa using h1, h2, by rw [h3, num_succ]; omega⟩
theorem renOL_eq {r : Id → Option Id} : ∀ {l : List (Id × AO)} {l' : List AO}, renOL r l = some l' → l'.length = l.length ∧ ∀ (i : Nat) (q : Id × AO) (o' : AO), l[i]? = some q → l'[i]? = some o' → renO r q.2 = some o'
  | [], _, h => by cases h; exact ⟨rfl, fun i q o' hq _ => by simp at hq⟩
  | q :: l, _, h => by
    simp only [renOL, Option.map_eq_some_iff, Option.bind_eq_some_iff] at h
    obtain ⟨o', h1, l', h2, rfl⟩ := h
    obtain ⟨i1, i2⟩ := renOL_eq h2
    refine ⟨by simp [i1], fun i q' o2 hq ho => ?_⟩
    cases i with
    | zero => simp at hq ho; subst hq; subst ho; exact h1
    | succ i => exact i2 i q' o2 (by simpa using hq) (by simpa using ho)
theorem memo_entry {P : Program} {X1 : Ext} {tab : FuncId → Option AFn} {f : FuncId} {ev pt et n gh ev' rt tid k : Nat} {sg : Nat → Bool} {s : Nat → Nat × Nat} {l : List Tab} (hX1 : ExtOk P X1) (ht : ∀ f a, tab f = some a → FnOk P f a) (hXf : X1 f = none)
    (hlt : ∀ e ∈ l, e.g < P.globals.size) (hg : gh < P.globals.size) (hlg : ∀ e ∈ l, e.g ≠ gh) {e : ME} (hrun : memoRun (callN tab X1 k f) (h03 ev pt et P.globals.size n sg s l gh ev' rt tid) e = true) {args : List AV} {h h' : AH} {v : AV}
    (hr : tryE (baseIn ev pt et P.globals.size n sg s l gh rt tid) (P.globals.size + 1 + n) e args h = some (v, h')) :
    num h.nx ≤ num h'.nx ∧ ∀ ρ w xs, Mem P ρ h w → Free ρ h h' → denL ρ args = some xs → Calls P f xs.toArray w (Good P ρ h w v h') := by
  unfold tryE tryB at hr
  generalize bindE (P.globals.size + 1 + n) h e.ext 0 (bindL (P.globals.size + 1 + n) e.args args []) = bs at hr
  generalize hK : P.globals.size + 1 + n = K at hr
  rw [bsel_eq] at hr
  split at hr
  case isFalse => cases hr
  rename_i hc
  simp only [band_eq, Bool.and_eq_true, natBle_eq] at hc
  obtain ⟨c1, c2, c3, c4, c5, c6⟩ := hc
  simp only [Option.map_eq_some_iff, Option.bind_eq_some_iff] at hr
  obtain ⟨v', r1, L, r2, r3⟩ := hr
  cases r3
  obtain ⟨L1, L2⟩ := renOL_eq r2
  obtain ⟨E1, E2⟩ := extSame_eq c6
  have hnx : num (allocL L h).nx = num h.nx + e.news.length := by rw [allocL_nx, L1]
  refine ⟨by omega, fun ρ w xs m hfr hx => ?_⟩
  -- the run
  unfold memoRun at hrun
  rw [band_eq, Bool.and_eq_true] at hrun
  obtain ⟨u1, u2⟩ := hrun
  obtain ⟨args', a1, a2⟩ : ∃ l, renL (baseR K bs) e.args = some l ∧ l = args := by
    unfold sameOpt at c1
    split at c1
    · rename_i l' e1; exact ⟨l', e1, aggSameL_eq c1⟩
    · cases c1
  subst a2
  have bsHigh : ∀ (j : Nat) (b : Id), bs[j]? = some b → K ≤ num b := fun j b hb => by
    have := allB_eq c4 b (List.mem_of_getElem? hb)
    simpa using this
  -- the map of the run's blocks
  let ρB : Rho := fun p => if num p < K then ρ p else (bs[num p - K]?).bind ρ
  have bLow : ∀ p, num p < K → ρB p = ρ p := fun p hp => if_pos hp
  have bExt : ∀ p, ¬ num p < K → ρB p = (bs[num p - K]?).bind ρ := fun p hp => if_neg hp
  have bR : ∀ p p', baseR K bs p = some p' → (num p < K ∧ p' = p) ∨ (¬ num p < K ∧ bs[num p - K]? = some p') := by
    intro p p' hp
    unfold baseR at hp
    rw [bsel_eq] at hp
    split at hp
    · rename_i e1; cases hp; exact .inl ⟨by rw [natBle_eq] at e1; omega, rfl⟩
    · rename_i e1; rw [nth_eq] at hp; exact .inr ⟨by rw [natBle_eq] at e1; omega, hp⟩
  have renB : RenOk (baseR K bs) ρB ρ := by
    intro p p' hp
    rcases bR p p' hp with ⟨h1, rfl⟩ | ⟨h1, h2⟩
    · exact (bLow _ h1).symm
    · rw [bExt _ h1, h2]; rfl
  obtain ⟨m0, b0⟩ := mem_base (ev' := ev') m c3 hlt hg hlg
  rw [hK] at m0
  have b0 : ∀ p ob, Q.get p (h03 ev pt et P.globals.size n sg s l gh ev' rt tid).tr = some ob → ob.ro = true ∧ num p < K ∧ ∃ ob', Q.get p h.tr = some ob' ∧ ob'.ro = true := fun p ob hp => by rw [← hK]; exact b0 p ob hp
  have nx0 : num (h03 ev pt et P.globals.size n sg s l gh ev' rt tid).nx = K := by rw [← hK]; exact num_pathOf _
  revert u2 m0 b0 nx0
  generalize h03 ev pt et P.globals.size n sg s l gh ev' rt tid = H
  intro u2 m0 b0 nx0
  have cutle : (rhoCut K ρ).le ρB := by
    intro p k' hk
    unfold rhoCut at hk
    split at hk
    · rename_i e1; rw [bLow p e1]; exact hk
    · cases hk
  have getB : ∀ p ob, Q.get p (allocL e.ext H).tr = some ob → (num p < K ∧ Q.get p H.tr = some ob) ∨ (∃ b oh, ¬ num p < K ∧ num p < K + e.ext.length ∧ bs[num p - K]? = some b ∧ Q.get b h.tr = some oh ∧ renO (baseR K bs) ob = some (roT oh) ∧ ob.ro = true ∧ ρB p = ρ b) := by
    intro p ob hp
    rw [allocL_get, nx0] at hp
    split at hp
    · rename_i e1
      have hlt2 : num p - K < bs.length := by omega
      obtain ⟨oh, g1, g2, g3⟩ := E2 (num p - K) ob bs[num p - K] hp (List.getElem?_eq_getElem hlt2)
      refine .inr ⟨bs[num p - K], oh, by omega, e1.2, List.getElem?_eq_getElem hlt2, g1, g2, g3, ?_⟩
      rw [bExt p (by omega), List.getElem?_eq_getElem hlt2]; rfl
    · exact .inl ⟨(b0 p ob hp).2.1, hp⟩
  have roB : ∀ p ob, Q.get p (allocL e.ext H).tr = some ob → ob.ro = true := by
    intro p ob hp
    rcases getB p ob hp with ⟨_, h1⟩ | ⟨b, oh, _, _, _, _, _, h1, _⟩
    · exact (b0 p ob h1).1
    · exact h1
  have mB : Mem P ρB (allocL e.ext H) w := by
    refine ⟨fun p ob k' hp hk => ?_, fun p p' ob ob' k1 k2 hp hp' hk hk' hne => ?_, m0.glob_le cutle, fun p ob hp => ?_⟩
    · rcases getB p ob hp with ⟨h1, h2⟩ | ⟨b, oh, h1, _, h2, h3, h4, _, h5⟩
      · exact ObjOk.mono cutle rfl (m0.obj p ob k' h2 (by unfold rhoCut; rw [if_pos h1, ← bLow p h1]; exact hk))
      · rw [h5] at hk
        exact (objOk_ren renB h4).1 (objOk_ro (m.obj b oh k' h3 hk))
    · rcases getB p ob hp with ⟨h1, h2⟩ | ⟨b, oh, h1, _, h2, h3, h4, h5, h6⟩ <;> rcases getB p' ob' hp' with ⟨h1', h2'⟩ | ⟨b', oh', h1', _, h2', h3', h4', h5', h6'⟩
      · exact m0.apart p p' ob ob' k1 k2 h2 h2' (by unfold rhoCut; rw [if_pos h1, ← bLow p h1]; exact hk) (by unfold rhoCut; rw [if_pos h1', ← bLow p' h1']; exact hk') hne
      · obtain ⟨z1, _, ob2, z2, z3⟩ := b0 p ob h2
        rw [bLow p h1] at hk
        rw [h6'] at hk'
        rcases m.apart p b' ob2 oh' k1 k2 z2 h3' hk hk' (fun e1 => by have := bsHigh _ _ h2'; rw [← e1] at this; omega) with g | ⟨_, _, g⟩
        · exact .inl g
        · exact .inr ⟨z1, h5', g⟩
      · obtain ⟨z1, _, ob2, z2, z3⟩ := b0 p' ob' h2'
        rw [bLow p' h1'] at hk'
        rw [h6] at hk
        rcases m.apart b p' oh ob2 k1 k2 h3 z2 hk hk' (fun e1 => by have := bsHigh _ _ h2; rw [e1] at this; omega) with g | ⟨_, _, g⟩
        · exact .inl g
        · exact .inr ⟨h5, z1, g⟩
      · rw [h6] at hk
        rw [h6'] at hk'
        have hij : num p - K ≠ num p' - K := fun e1 => hne (num_inj (by omega))
        rcases m.apart b b' oh oh' k1 k2 h3 h3' hk hk' (freshIds_ne c5 _ _ _ _ h2 h2' hij) with g | ⟨_, _, g⟩
        · exact .inl g
        · exact .inr ⟨h5, h5', g⟩
    · rw [allocL_nx, nx0]
      rcases getB p ob hp with ⟨h1, _⟩ | ⟨b, oh, _, h2, _⟩ <;> omega
  obtain ⟨vF, hF, u3, u4⟩ : ∃ vF hF, callN tab X1 k f e.args (allocL e.ext H) = .ok (vF, hF) ∧ band (avSame vF e.v) (allB (fun q => onSome (fun o => band (objSame o q.2) (bnot o.ro)) (Q.get q.1 hF.tr)) e.news) = true := by
    split at u2
    · rename_i v2 h2 e2; exact ⟨v2, h2, e2, u2⟩
    · cases u2
  rw [band_eq, Bool.and_eq_true] at u4
  obtain ⟨u4, u5⟩ := u4
  have u4 := avSame_eq u4
  subst u4
  have fB : Free ρB (allocL e.ext H) hF := by
    intro p h1 _
    rw [allocL_nx, nx0] at h1
    rw [bExt p (by omega), List.getElem?_eq_none (by omega)]; rfl
  have hxB : denL ρB e.args = some xs := by rw [← renL_den renB a1]; exact hx
  refine Calls.mono (calls_of_run hX1 ht hXf u3 mB fB hxB) fun en w' ⟨ρ1, x, he, hs, m1, hd⟩ => ?_
  have nowr : ∀ cb, ¬ Wr ρB (allocL e.ext H) cb := fun cb ⟨p, ob, k', h1, h2, _, _⟩ => by rw [roB p ob h1] at h2; cases h2
  have frame : ∀ cb, cb < w.heap.size → w'.heap[cb]? = w.heap[cb]? := fun cb hcb => hs.frame cb hcb (nowr cb)
  have newO : ∀ (i : Nat) (q : Id × AO), e.news[i]? = some q → Q.get q.1 hF.tr = some q.2 ∧ q.2.ro = false := by
    intro i q hq
    obtain ⟨o, g1, g2⟩ := onSome_eq (allB_eq u5 q (List.mem_of_getElem? hq))
    rw [band_eq, Bool.and_eq_true] at g2
    rw [← objSame_eq g2.1]
    refine ⟨g1, ?_⟩
    cases hro : o.ro with
    | false => rfl
    | true => rw [hro] at g2; exact absurd g2.2 (by decide)
  have fresh : ∀ (i j : Nat) (q q' : Id × AO), e.news[i]? = some q → e.news[j]? = some q' → i ≠ j → q.1 ≠ q'.1 := fun i j q q' hi hj hne => freshIds_ne u1 i j q.1 q'.1 (by simp [hi]) (by simp [hj]) hne
  -- the map of all blocks, after
  let ρ' : Rho := fun p => if num h.nx ≤ num p ∧ num p < num h.nx + e.news.length then (e.news[num p - num h.nx]?).bind fun q => ρ1 q.1 else ρ p
  have aNew : ∀ p, (num h.nx ≤ num p ∧ num p < num h.nx + e.news.length) → ρ' p = (e.news[num p - num h.nx]?).bind fun q => ρ1 q.1 := fun p hp => if_pos hp
  have aOld : ∀ p, ¬ (num h.nx ≤ num p ∧ num p < num h.nx + e.news.length) → ρ' p = ρ p := fun p hp => if_neg hp
  have low1 : ∀ p, num p < K + bs.length → ρ1 p = ρB p := by
    intro p hp
    cases hq : ρB p with
    | some k' => exact hs.ext p k' hq
    | none =>
      cases hq1 : ρ1 p with
      | none => rfl
      | some k' =>
        rcases hs.dom p (by rw [hq1]; exact fun h => by cases h) with g | g
        · exact absurd hq g
        · rw [allocL_nx, nx0] at g; omega
  have renA : RenOk (afterR K bs e.news h.nx) ρ1 ρ' := by
    intro p p' hp
    unfold afterR at hp
    rw [bsel_eq, len_eq] at hp
    split at hp
    · rename_i e1
      have e1 : num p < K + bs.length := by rw [natBle_eq] at e1; omega
      rw [low1 p e1]
      have := renB p p' hp
      rw [← this]
      refine aOld p' fun hn => ?_
      rcases bR p p' hp with ⟨h1, rfl⟩ | ⟨h1, h2⟩
      · omega
      · have hlt2 : num p - K < e.ext.length := by omega
        obtain ⟨oh, g1, _, _⟩ := E2 (num p - K) _ p' (List.getElem?_eq_getElem hlt2) h2
        have := m.wf p' oh g1
        omega
    · obtain ⟨i, q, g1, g2, g3⟩ := newAt_eq hp
      have hi : i < e.news.length := (List.getElem?_eq_some_iff.1 g1).1
      rw [aNew p' (by omega), show num p' - num h.nx = i by omega, g1, ← g2]; rfl
  have hle : ρ.le ρ' := by
    intro p k' hk
    by_cases hn : num h.nx ≤ num p ∧ num p < num h.nx + e.news.length
    · rw [hfr p hn.1 (by rw [hnx]; exact hn.2)] at hk; cases hk
    · rw [aOld p hn]; exact hk
  have getN : ∀ p ob k', num h.nx ≤ num p → num p < num (allocL L h).nx → Q.get p (allocL L h).tr = some ob → ρ' p = some k' → ∃ q, e.news[num p - num h.nx]? = some q ∧ renO (afterR K bs e.news h.nx) q.2 = some ob ∧ ρ1 q.1 = some k' := by
    intro p ob k' h1 h2 hp hk
    rw [hnx] at h2
    rw [allocL_get, if_pos (by omega)] at hp
    have hi : num p - num h.nx < e.news.length := by omega
    refine ⟨e.news[num p - num h.nx], List.getElem?_eq_getElem hi, L2 _ _ _ (List.getElem?_eq_getElem hi) hp, ?_⟩
    rw [aNew p ⟨h1, h2⟩, List.getElem?_eq_getElem hi] at hk
    exact hk
  obtain ⟨mF, sF⟩ := m.merge (ρ' := ρ') (h' := allocL L h) (w' := w') hle (fun p hp => by
      by_cases hn : num h.nx ≤ num p ∧ num p < num h.nx + e.news.length
      · exact .inr ⟨hn.1, by rw [hnx]; exact hn.2⟩
      · rw [aOld p hn] at hp; exact .inl hp) (by omega) hs.os hs.tape hs.output hs.size frame (fun p hn => by rw [allocL_get, if_neg (by omega)])
    (fun p ob k' h1 h2 hp hk => by
      obtain ⟨q, g1, g2, g3⟩ := getN p ob k' h1 h2 hp hk
      obtain ⟨g4, g5⟩ := newO _ q g1
      refine ⟨(objOk_ren renA g2).2 (m1.obj q.1 q.2 k' g4 g3), ?_⟩
      rcases hs.wr k'.cb ⟨q.1, q.2, k', g4, g5, g3, rfl⟩ with g | g
      · exact absurd g (nowr _)
      · exact g)
    (fun p p' ob ob' k1 k2 h1 h2 h1' h2' hp hp' hk hk' hne => by
      obtain ⟨q, g1, _, g3⟩ := getN p ob k1 h1 h2 hp hk
      obtain ⟨q', g1', _, g3'⟩ := getN p' ob' k2 h1' h2' hp' hk'
      obtain ⟨g4, g5⟩ := newO _ q g1
      obtain ⟨g4', _⟩ := newO _ q' g1'
      have hij : num p - num h.nx ≠ num p' - num h.nx := fun e1 => hne (num_inj (by omega))
      rcases m1.apart q.1 q'.1 q.2 q'.2 k1 k2 g4 g4' g3 g3' (fresh _ _ _ _ g1 g1' hij) with g | ⟨g, _⟩
      · exact g
      · rw [g5] at g; cases g)
  exact ⟨ρ', x, he, sF, mF, by rw [renV_den renA r1]; exact hd⟩
theorem memo_ok {P : Program} {X X1 : Ext} {tab : FuncId → Option AFn} {f : FuncId} {fn : Func} {c : Code} {a : AFn} {ev pt et n gh ev' rt tid k : Nat} {sg : Nat → Bool} {s : Nat → Nat × Nat} {l : List Tab} (hf : P.funcs[f]? = some fn) (hname : (fn.name == "runtime.NumGoroutine") = false) (hb : fn.body = some c) (hfn : FnOk P f a)
    (hX1 : ExtOk P X1) (ht : ∀ f a, tab f = some a → FnOk P f a) (hXf : X1 f = none) (hlt : ∀ e ∈ l, e.g < P.globals.size) (hg : gh < P.globals.size) (hlg : ∀ e ∈ l, e.g ≠ gh) {es : List ME} (hes : ∀ e, e ∈ es → memoRun (callN tab X1 k f) (h03 ev pt et P.globals.size n sg s l gh ev' rt tid) e = true) :
    OneOk P X f (memoX (baseIn ev pt et P.globals.size n sg s l gh rt tid) (P.globals.size + 1 + n) a es) :=
  oneOk_calls hf hname hb fun ih hc args h v h' hr => by
    induction es with
    | nil => exact ⟨runFn_mono hc.mono (fun df h h' hd => by rw [(noDefers hd).2]; exact Nat.le_refl _) hfn hr, fun ρ w xs m hfr hx => (fn_calls hc defOk_none hfn hr m hfr hx).2⟩
    | cons e es ihl =>
      have hr : Option.rec (motive := fun _ => R (AV × AH)) (memoX (baseIn ev pt et P.globals.size n sg s l gh rt tid) (P.globals.size + 1 + n) a es ih args h) (fun x => .ok x) (tryE (baseIn ev pt et P.globals.size n sg s l gh rt tid) (P.globals.size + 1 + n) e args h) = .ok (v, h') := hr
      cases hq : tryE (baseIn ev pt et P.globals.size n sg s l gh rt tid) (P.globals.size + 1 + n) e args h with
      | none => rw [hq] at hr; exact ihl (fun e he => hes e (by simp [he])) hr
      | some x =>
        rw [hq] at hr
        cases hr
        exact memo_entry hX1 ht hXf hlt hg hlg (hes e (by simp)) hq
end
end Go.AX
