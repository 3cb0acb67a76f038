/- The abstract executor: regions that draw their order: what stands fixed. -/
import Derived.Test.YtlbfndapmlmcfaaGreatDoorAxC
import Derived.Below
import Derived.LaidLaws
import Derived.Stop.ErrReads
import Derived.Maps.RangeRun
import Derived.ProofKit
import Derived.OpenShut
import Derived.ChangeSame
import Derived.Lib.LaidTab
import Derived.Sort.Grow
import Derived.Lib.ItoaNum
namespace Go.AX

/-! ## What is ahead of each operation -/
noncomputable def befOf (o : Oper) (acc : List Nat) : Nat := (o.after.toList.filter (Region.binds .any)).foldl (fun s e => s ||| 2 ^ e.on ||| ((nth e.on acc).getD 0)) 0
theorem befs_nil (acc : List Nat) : befs [] acc = acc := rfl
theorem befs_cons (o : Oper) (l : List Oper) (acc : List Nat) : befs (o :: l) acc = befs l (acc ++ [befOf o acc]) := by
  show befs l (app acc [befOf o acc]) = _
  rw [app_eq]
theorem befs_old : ∀ (l : List Oper) (acc : List Nat) (i : Nat), i < acc.length → (befs l acc)[i]? = acc[i]?
  | [], acc, i, _ => rfl
  | o :: l, acc, i, h => by
    rw [befs_cons, befs_old l _ i (by simp; omega), List.getElem?_append_left h]
theorem befs_at : ∀ (l : List Oper) (acc : List Nat) (k : Nat) (o : Oper), l[k]? = some o → ∃ acc', acc'.length = acc.length + k ∧ (befs l acc)[acc.length + k]? = some (befOf o acc') ∧ ∀ i, i < acc'.length → (befs l acc)[i]? = acc'[i]?
  | [], acc, k, o, h => by simp at h
  | x :: l, acc, k, o, h => by
    rw [befs_cons]
    cases k with
    | zero =>
      simp at h; subst h
      refine ⟨acc, rfl, ?_, fun i hi => ?_⟩
      · rw [befs_old l _ _ (by simp)]; simp
      · rw [befs_old l _ i (by simp; omega), List.getElem?_append_left hi]
    | succ k =>
      obtain ⟨acc', h1, h2, h3⟩ := befs_at l (acc ++ [befOf x acc]) k o (by simpa using h)
      simp at h1
      refine ⟨acc', by omega, ?_, h3⟩
      rw [← h2]; congr 1; simp; omega
theorem fold_bits (acc : List Nat) (j : Nat) : ∀ (l : List Edge) (s : Nat), (l.foldl (fun s e => s ||| 2 ^ e.on ||| ((nth e.on acc).getD 0)) s).testBit j = true ↔ s.testBit j = true ∨ ∃ e ∈ l, e.on = j ∨ ((nth e.on acc).getD 0).testBit j = true
  | [], s => by simp
  | e :: l, s => by
    rw [List.foldl_cons, fold_bits acc j l]
    simp only [Nat.testBit_or, Bool.or_eq_true, Nat.testBit_two_pow, decide_eq_true_eq, List.mem_cons, exists_eq_or_imp]
    constructor
    · rintro (((h | h) | h) | h)
      · exact .inl h
      · exact .inr (.inl (.inl h))
      · exact .inr (.inl (.inr h))
      · exact .inr (.inr h)
    · rintro (h | ((h | h) | h))
      · exact .inl (.inl (.inl h))
      · exact .inl (.inl (.inr h))
      · exact .inl (.inr h)
      · exact .inr h
/-- The order's facts. -/
structure OrdOk (ops : Array Oper) (bs : List Nat) : Prop where
  lt : ∀ (i : Nat) (o : Oper) (e : Edge), ops[i]? = some o → e ∈ o.after.toList → Region.binds .any e = true → e.on < i
  bit : ∀ (i : Nat) (o : Oper) (j : Nat), ops[i]? = some o → ((bsOf bs i).testBit j = true ↔ ∃ e ∈ o.after.toList, Region.binds .any e = true ∧ (e.on = j ∨ (bsOf bs e.on).testBit j = true))
theorem ordOk {ops : Array Oper} {louds : List Nat} (h : drawOk ops (befs ops.toList []) louds = true) : OrdOk ops (befs ops.toList []) := by
  unfold drawOk at h
  rw [band_eq, Bool.and_eq_true] at h
  have lt : ∀ (i : Nat) (o : Oper) (e : Edge), ops[i]? = some o → e ∈ o.after.toList → Region.binds .any e = true → e.on < i := by
    intro i o e hi he hb
    have h1 := List.all_eq_true.1 h.1 (o, i) (by
      rw [List.mem_zipIdx_iff_getElem?]
      simpa using hi)
    simp only [band_eq, Bool.and_eq_true] at h1
    have h2 := List.all_eq_true.1 h1.1 e he
    rw [hb] at h2
    simpa using h2
  refine ⟨lt, fun i o j hi => ?_⟩
  obtain ⟨acc', h1, h2, h3⟩ := befs_at ops.toList [] i o (by simpa using hi)
  simp only [List.length_nil, Nat.zero_add] at h1 h2
  have e1 : bsOf (befs ops.toList []) i = befOf o acc' := by
    unfold bsOf
    rw [nth_eq, h2]; rfl
  have e2 : ∀ k, k < i → (nth k acc').getD 0 = bsOf (befs ops.toList []) k := by
    intro k hk
    unfold bsOf
    rw [nth_eq, nth_eq, h3 k (by omega)]
  rw [e1]
  unfold befOf
  rw [fold_bits]
  simp only [Nat.zero_testBit, Bool.false_eq_true, false_or, List.mem_filter]
  constructor
  · rintro ⟨e, ⟨he, hb⟩, hh⟩
    exact ⟨e, he, hb, by rw [e2 _ (lt i o e hi he hb)] at hh; exact hh⟩
  · rintro ⟨e, he, hb, hh⟩
    exact ⟨e, ⟨he, hb⟩, by rw [e2 _ (lt i o e hi he hb)]; exact hh⟩
theorem OrdOk.less {ops : Array Oper} {bs : List Nat} (h : OrdOk ops bs) : ∀ (i j : Nat) (o : Oper), ops[i]? = some o → (bsOf bs i).testBit j = true → j < i := by
  intro i
  induction i using Nat.strongRecOn with
  | ind i ih =>
    intro j o hi hj
    obtain ⟨e, he, hb, hh⟩ := (h.bit i o j hi).1 hj
    have hlt := h.lt i o e hi he hb
    rcases hh with rfl | hh
    · exact hlt
    · have hin : e.on < ops.size := by
        have := (Array.getElem?_eq_some_iff.1 hi).1; omega
      have := ih e.on hlt j ops[e.on] (by simp [hin]) hh
      omega

/-! ## The run -/
theorem opsD_trace {call : CallH} : ∀ (os : List DOper) (s s' : DSt), opsD call os s = .ok s' → ∃ σ : Nat → DSt, σ 0 = s ∧ σ os.length = s' ∧ ∀ (i : Nat) (o : DOper), os[i]? = some o → operD call o (σ i) = .ok (σ (i + 1))
  | [], s, s', h => by
    have h : R.ok s = .ok s' := h
    cases h
    exact ⟨fun _ => s, rfl, rfl, fun i o ho => by simp at ho⟩
  | o :: os, s, s', h => by
    have h : ((operD call o s).bind (opsD call os)) = .ok s' := h
    obtain ⟨s1, h1, h2⟩ := bind_eq.1 h
    obtain ⟨σ, g1, g2, g3⟩ := opsD_trace os s1 s' h2
    refine ⟨fun i => Nat.casesOn i s σ, rfl, g2, fun i x hx => ?_⟩
    cases i with
    | zero => simp at hx; subst hx; show operD call o s = .ok (σ 0); rw [g1]; exact h1
    | succ i => exact g3 i x (by simpa using hx)
theorem opers_trace {ops : Array Oper} : ∀ (l : List Oper) (E E' : CE) (as : List AOper), E.opers ops l = .ok (as, E') → as.length = l.length ∧ ∃ F : Nat → CE, F 0 = E ∧ F l.length = E' ∧ ∀ (i : Nat) (o : Oper), l[i]? = some o → ∃ a, as[i]? = some a ∧ (F i).oper ops o = .ok (a, F (i + 1))
  | [], E, E', as, h => by
    have h : R.ok (([] : List AOper), E) = .ok (as, E') := h
    cases h
    exact ⟨rfl, fun _ => E, rfl, rfl, fun i o ho => by simp at ho⟩
  | o :: l, E, E', as, h => by
    rw [opers_cons] at h
    obtain ⟨⟨ao, E1⟩, h1, h2⟩ := bind_eq.1 h
    obtain ⟨⟨as', E2⟩, h3, h4⟩ := bind_eq.1 h2
    cases h4
    obtain ⟨g0, F, g1, g2, g3⟩ := opers_trace l E1 _ as' h3
    refine ⟨by simp [g0], fun i => Nat.casesOn i E F, rfl, g2, fun i x hx => ?_⟩
    cases i with
    | zero => simp at hx; subst hx; exact ⟨ao, rfl, by show E.oper ops o = .ok (ao, F 0); rw [g1]; exact h1⟩
    | succ i =>
      obtain ⟨a, e1, e2⟩ := g3 i x (by simpa using hx)
      exact ⟨a, by simpa using e1, e2⟩
theorem drawOpers_get (bs louds : List Nat) (n : Nat) : ∀ (l : List AOper) (i k : Nat) (a : AOper), l[k]? = some a → (drawOpers bs louds n l i)[k]? = some ⟨a, i + k, bsel a.reads ((List.range (n + 1)).filter (oksAt bs louds (i + k))) []⟩
  | [], i, k, a, h => by simp at h
  | x :: l, i, k, a, h => by
    have e : drawOpers bs louds n (x :: l) i = ⟨x, i, bsel x.reads ((List.range (n + 1)).filter (oksAt bs louds i)) []⟩ :: drawOpers bs louds n l (i + 1) := rfl
    rw [e]
    cases k with
    | zero => simp at h; subst h; simp
    | succ k =>
      rw [List.getElem?_cons_succ, drawOpers_get bs louds n l (i + 1) k a (by simpa using h)]
      have : i + 1 + k = i + (k + 1) := by omega
      rw [this]
theorem drawOpers_length (bs louds : List Nat) (n : Nat) : ∀ (l : List AOper) (i : Nat), (drawOpers bs louds n l i).length = l.length
  | [], i => rfl
  | x :: l, i => by
    have e : drawOpers bs louds n (x :: l) i = ⟨x, i, bsel x.reads ((List.range (n + 1)).filter (oksAt bs louds i)) []⟩ :: drawOpers bs louds n l (i + 1) := rfl
    rw [e, List.length_cons, drawOpers_length bs louds n l (i + 1), List.length_cons]
theorem louds_mem : ∀ (l : List AOper) (i k : Nat) (a : AOper), l[k]? = some a → a.loud = true → (i + k) ∈ loudsOf l i
  | [], i, k, a, h, _ => by simp at h
  | x :: l, i, k, a, h, hl => by
    have e : loudsOf (x :: l) i = bsel x.loud (i :: loudsOf l (i + 1)) (loudsOf l (i + 1)) := rfl
    rw [e, bsel_eq]
    cases k with
    | zero => simp at h; subst h; rw [if_pos hl]; simp
    | succ k =>
      have := louds_mem l (i + 1) k a (by simpa using h) hl
      have e2 : i + 1 + k = i + (k + 1) := by omega
      rw [e2] at this
      split
      · exact List.mem_cons_of_mem _ this
      · exact this
theorem louds_of : ∀ (l : List AOper) (i p : Nat), p ∈ loudsOf l i → ∃ k a, p = i + k ∧ l[k]? = some a ∧ a.loud = true
  | [], i, p, h => by cases h
  | x :: l, i, p, h => by
    have e : loudsOf (x :: l) i = bsel x.loud (i :: loudsOf l (i + 1)) (loudsOf l (i + 1)) := rfl
    rw [e, bsel_eq] at h
    have go : p ∈ loudsOf l (i + 1) → ∃ k a, p = i + k ∧ (x :: l)[k]? = some a ∧ a.loud = true := fun h => by
      obtain ⟨k, a, h1, h2, h3⟩ := louds_of l (i + 1) p h
      exact ⟨k + 1, a, by omega, by simpa using h2, h3⟩
    split at h
    · rename_i hx
      rcases List.mem_cons.1 h with rfl | h
      · exact ⟨0, x, rfl, rfl, hx⟩
      · exact go h
    · exact go h
theorem agree_mem {ps : List Pend} {hs : List (Nat × AH)} (h : agreeAll ps hs = .ok ()) {p : Pend} (hp : p ∈ ps) {e : Nat × AH} (he : e ∈ hs) (hn : e.1 ∈ p.oks) : ∃ u, p.f e.2 = .ok u ∧ avSame p.v u = true := by
  have memN_eq : ∀ (n : Nat) (l : List Nat), n ∈ l → memN n l = true := by
    intro n l
    induction l with
    | nil => intro h; cases h
    | cons m l ih =>
      intro h
      show bor (Nat.beq m n) (memN n l) = true
      rw [bor_eq, Bool.or_eq_true, natBeq_eq]
      rcases List.mem_cons.1 h with rfl | h
      · exact .inl rfl
      · exact .inr (ih h)
  have h1 : agreeOne p hs = .ok () := by
    clear he hn
    induction ps with
    | nil => cases hp
    | cons q ps ih =>
      have h : ((agreeOne q hs).bind fun _ => agreeAll ps hs) = .ok () := h
      obtain ⟨_, h1, h2⟩ := bind_eq.1 h
      rcases List.mem_cons.1 hp with rfl | hp
      · exact h1
      · exact ih h2 hp
  clear h
  induction hs with
  | nil => cases he
  | cons x hs ih =>
    have h1 : bsel (memN x.1 p.oks) ((agrees p.f p.v x.2).bind fun _ => agreeOne p hs) (agreeOne p hs) = .ok () := h1
    rw [bsel_eq] at h1
    rcases List.mem_cons.1 he with rfl | he
    · rw [if_pos (memN_eq _ _ hn)] at h1
      obtain ⟨_, h2, _⟩ := bind_eq.1 h1
      obtain ⟨u, h3, h4⟩ := bind_eq.1 h2
      exact ⟨u, h3, (tst_eq.1 h4).1⟩
    · split at h1
      · obtain ⟨_, _, h2⟩ := bind_eq.1 h1
        exact ih he h2
      · exact ih he h1
end Go.AX
/- The abstract executor: regions that draw their order: what each operation did. -/
namespace Go.AX

/-- Was the operation wanted? -/
def GOk (ops : Array Oper) (o : Oper) (E : CE) (l : List AV) (tm : Q AV) (on : Bool) : Prop :=
  (o.guard = none ∧ on = true) ∨ ∃ j want t g u, o.guard = some (j, want) ∧ ((ops[j]?).bind (·.dst)) = some t ∧ E.opd (.tmp t) = .ok g ∧ g l tm = .ok u ∧ wantB want u = on
structure Did (P : Program) (X : Ext) (call : CallH) (ops : Array Oper) (o : Oper) (E E1 : CE) (s s1 : DSt) (pos : Nat) (loud : Bool) (reads : Bool) (oks : List Nat) (v : AV) (al : Option (Id × AO)) : Prop where
  dst : ∃ dd, E.dst o.dst = .ok (dd, E1) ∧ s1.l = dd.l v s.l ∧ s1.tm = dd.t v s.tm
  hs : ∀ e, e ∈ s.hs → e ∈ s1.hs
  ps : ∀ e, e ∈ s.ps → e ∈ s1.ps
  lh : loud = true → (pos + 1, s1.hp) ∈ s1.hs
  how : (al = none ∧ GOk ops o E s.l s.tm false ∧ v = .undef ∧ s1.hp = s.hp) ∨
    (al = none ∧ GOk ops o E s.l s.tm true ∧ s1.hp = s.hp ∧ ∃ f, PurOk P o E f ∧ f s.l s.tm = .ok v) ∨
    (al = none ∧ GOk ops o E s.l s.tm true ∧ s1.hp = s.hp ∧ reads = true ∧ ∃ f, RdOk P o E f ∧ (⟨oks, f s.l s.tm, v⟩ : Pend) ∈ s1.ps) ∨
    (GOk ops o E s.l s.tm true ∧ loud = false ∧ ∃ f ob, AlcOk P o E f ∧ f s.l s.tm s.hp.nx = .ok (v, ob) ∧ s1.hp = s.hp.alloc ob ∧ al = some (s.hp.nx, ob)) ∨
    (al = none ∧ GOk ops o E s.l s.tm true ∧ loud = true ∧ ∃ f, MemOk P X o E f ∧ f call s.l s.tm s.hp = .ok (v, s1.hp))
theorem put_l (s : DSt) (d : Dst) (v : AV) : (s.put d v).l = d.l v s.l := by cases d <;> rfl
theorem put_t (s : DSt) (d : Dst) (v : AV) : (s.put d v).tm = d.t v s.tm := by cases d <;> rfl
theorem put_h (s : DSt) (d : Dst) (v : AV) : (s.put d v).hp = s.hp := by cases d <;> rfl
theorem put_hs (s : DSt) (d : Dst) (v : AV) : (s.put d v).hs = s.hs := by cases d <;> rfl
theorem put_ps (s : DSt) (d : Dst) (v : AV) : (s.put d v).ps = s.ps := by cases d <;> rfl
section
variable {P : Program} {X : Ext} {call : CallH} {ops : Array Oper}
theorem did_opD {o : Oper} {E E1 : CE} {s s1 : DSt} {pos : Nat} {oks : List Nat} {dd : Dst} {k : OpK} {lo re : Bool} (hlo : lo = true ↔ ∃ f, k = .mem f) (hre : (∃ f, k = .rd f) → re = true) (hk : KOk P X o E k) (hd : E.dst o.dst = .ok (dd, E1)) (hg : GOk ops o E s.l s.tm true) (h : opD call dd k pos oks s = .ok s1) :
    ∃ v al, Did P X call ops o E E1 s s1 pos lo re oks v al := by
  cases k with
  | pur f =>
    obtain ⟨v, h1, h2⟩ := bind_eq.1 h
    cases h2
    refine ⟨v, none, ⟨dd, hd, put_l _ _ _, put_t _ _ _⟩, fun e he => by rw [put_hs]; exact he, fun e he => by rw [put_ps]; exact he, fun hl => ?_, .inr (.inl ⟨rfl, hg, put_h _ _ _, f, hk, h1⟩)⟩
    obtain ⟨f', hf⟩ := hlo.1 hl; cases hf
  | rd f =>
    obtain ⟨g, h0, h1⟩ := bind_eq.1 h
    obtain ⟨v, h2, h3⟩ := bind_eq.1 h1
    cases h3
    refine ⟨v, none, ⟨dd, hd, put_l _ _ _, put_t _ _ _⟩, fun e he => by rw [put_hs]; exact he, fun e he => by rw [put_ps]; exact List.mem_cons_of_mem _ he, fun hl => ?_, .inr (.inr (.inl ⟨rfl, hg, put_h _ _ _, hre ⟨f, rfl⟩, f, hk, by rw [put_ps]; exact List.mem_cons_self⟩))⟩
    obtain ⟨f', hf⟩ := hlo.1 hl; cases hf
  | alc f =>
    obtain ⟨⟨v, ob⟩, h1, h2⟩ := bind_eq.1 h
    cases h2
    refine ⟨v, some (s.hp.nx, ob), ⟨dd, hd, put_l _ _ _, put_t _ _ _⟩, fun e he => by rw [put_hs]; exact he, fun e he => by rw [put_ps]; exact he, fun hl => ?_, .inr (.inr (.inr (.inl ⟨hg, ?_, f, ob, hk, h1, put_h _ _ _, rfl⟩)))⟩
    · obtain ⟨f', hf⟩ := hlo.1 hl; cases hf
    · cases lo with
      | false => rfl
      | true => obtain ⟨f', hf⟩ := hlo.1 rfl; cases hf
  | mem f =>
    obtain ⟨⟨v, h'⟩, h1, h2⟩ := bind_eq.1 h
    cases h2
    refine ⟨v, none, ⟨dd, hd, put_l _ _ _, put_t _ _ _⟩, fun e he => by rw [put_hs]; exact List.mem_cons_of_mem _ he, fun e he => by rw [put_ps]; exact he, fun _ => ?_, .inr (.inr (.inr (.inr ⟨rfl, hg, hlo.2 ⟨f, rfl⟩, f, hk, by rw [put_h]; exact h1⟩)))⟩
    rw [put_hs, put_h]; exact List.mem_cons_self
theorem did_operD {o : Oper} {E E1 : CE} {s s1 : DSt} {pos : Nat} {oks : List Nat} {ao : AOper} (hP : E.P = P) (hco : E.oper ops o = .ok (ao, E1)) (h : operD call ⟨ao, pos, oks⟩ s = .ok s1) :
    ∃ v al, Did P X call ops o E E1 s s1 pos ao.loud ao.reads oks v al := by
  rcases oper_compiled (X := X) hP hco with ⟨f, q, c, _, _, _, _, _, rfl, _⟩ | ⟨k, dd, hk, _, hd, ⟨hg, rfl⟩ | ⟨j, want, t, g, hg, ht, hgo, rfl⟩⟩
  · cases h
  · exact did_opD (by cases k <;> simp [AOper.loud]) (by rintro ⟨f, rfl⟩; rfl) hk hd (.inl ⟨hg, rfl⟩) h
  · obtain ⟨u, h1, h2⟩ := bind_eq.1 h
    rw [bsel_eq] at h2
    split at h2
    · rename_i hw
      exact did_opD (by cases k <;> simp [AOper.loud]) (by rintro ⟨f, rfl⟩; rfl) hk hd (.inr ⟨j, want, t, g, u, hg, ht, hgo, h1, hw⟩) h2
    · rename_i hw
      have hG : GOk ops o E s.l s.tm false := .inr ⟨j, want, t, g, u, hg, ht, hgo, h1, by simpa using hw⟩
      cases k with
      | mem f =>
        cases h2
        refine ⟨.undef, none, ⟨dd, hd, put_l _ _ _, put_t _ _ _⟩, fun e he => by rw [put_hs]; exact List.mem_cons_of_mem _ he, fun e he => by rw [put_ps]; exact he, fun _ => ?_, .inl ⟨rfl, hG, rfl, put_h _ _ _⟩⟩
        rw [put_hs, put_h]; exact List.mem_cons_self
      | pur f =>
        cases h2
        exact ⟨.undef, none, ⟨dd, hd, put_l _ _ _, put_t _ _ _⟩, fun e he => by rw [put_hs]; exact he, fun e he => by rw [put_ps]; exact he, fun hl => (by cases hl), .inl ⟨rfl, hG, rfl, put_h _ _ _⟩⟩
      | rd f =>
        cases h2
        exact ⟨.undef, none, ⟨dd, hd, put_l _ _ _, put_t _ _ _⟩, fun e he => by rw [put_hs]; exact he, fun e he => by rw [put_ps]; exact he, fun hl => (by cases hl), .inl ⟨rfl, hG, rfl, put_h _ _ _⟩⟩
      | alc f =>
        cases h2
        exact ⟨.undef, none, ⟨dd, hd, put_l _ _ _, put_t _ _ _⟩, fun e he => by rw [put_hs]; exact he, fun e he => by rw [put_ps]; exact he, fun hl => (by cases hl), .inl ⟨rfl, hG, rfl, put_h _ _ _⟩⟩
end
/-! ## avSame -/
theorem kindEqF {a b : FloatKind} (h : bEq (a matches .f32) (b matches .f32) = true) : a = b := by cases a <;> cases b <;> first | rfl | cases h
theorem byteSame_eq {v u : AV} (h : byteSame v u = true) : v = u := by
  unfold byteSame at h
  split at h
  · rw [band_eq, Bool.and_eq_true, intEq_eq, beq_iff_eq] at h
    rw [kindEq_eq h.1, h.2]
  · rw [band_eq, Bool.and_eq_true, natBeq_eq] at h; rw [idEq_eq h.1, h.2]
  · cases h
theorem byteSameL_eq : ∀ {l m : List AV}, byteSameL l m = true → l = m
  | [], [], _ => rfl
  | [], _ :: _, h => by cases h
  | _ :: _, [], h => by cases h
  | v :: l, u :: m, h => by
    have h : band (byteSame v u) (byteSameL l m) = true := h
    rw [band_eq, Bool.and_eq_true] at h
    rw [byteSame_eq h.1, byteSameL_eq h.2]
theorem flatSame_eq {v u : AV} (h : flatSame v u = true) : v = u := by
  unfold flatSame at h
  split at h
  · rw [bEq_eq, beq_iff_eq] at h; rw [h]
  · rw [band_eq, Bool.and_eq_true, intEq_eq, beq_iff_eq] at h
    rw [kindEq_eq h.1, h.2]
  · rw [band_eq, Bool.and_eq_true, natBeq_eq] at h
    rw [kindEqF h.1, h.2]
  · rw [band_eq, Bool.and_eq_true, natBeq_eq, natBeq_eq] at h; rw [h.1, h.2]
  · rfl
  · rw [band_eq, Bool.and_eq_true, natBeq_eq] at h; rw [idEq_eq h.1, h.2]
  · rfl
  · rw [band_eq, band_eq, band_eq, Bool.and_eq_true, Bool.and_eq_true, Bool.and_eq_true, natBeq_eq, natBeq_eq] at h
    obtain ⟨h1, h2, h3, h4⟩ := h
    have := idEq_eq h1
    subst this; subst h2; subst h3
    split at h4
    · rw [natBeq_eq] at h4; rw [h4]
    · rw [natBeq_eq] at h4; rw [h4]
    · cases h4
  · rw [band_eq, band_eq, band_eq, Bool.and_eq_true, Bool.and_eq_true, Bool.and_eq_true, natBeq_eq, natBeq_eq, natBeq_eq] at h
    obtain ⟨h1, h2, h3, h4⟩ := h
    rw [idEq_eq h1, h2, h3, h4]
  · rfl
  · rw [idEq_eq h]
  · rfl
  · rw [natBeq_eq] at h; rw [h]
  · rfl
  · rw [band_eq, Bool.and_eq_true, natBeq_eq] at h; rw [idEq_eq h.1, h.2]
  · rw [band_eq, Bool.and_eq_true, natBeq_eq] at h; rw [idEq_eq h.1, h.2]
  · rw [byteSameL_eq h]
  · cases h
theorem flatSame1_eq {v u : AV} (h : flatSame1 v u = true) : v = u := by
  unfold flatSame1 at h
  split at h
  · rw [band_eq, Bool.and_eq_true, natBeq_eq] at h
    rw [h.1, flatSame_eq h.2]
  · exact flatSame_eq h
theorem flatSameL_eq : ∀ {l m : List AV}, flatSameL l m = true → l = m
  | [], [], _ => rfl
  | [], _ :: _, h => by cases h
  | _ :: _, [], h => by cases h
  | v :: l, u :: m, h => by
    have h : band (flatSame1 v u) (flatSameL l m) = true := h
    rw [band_eq, Bool.and_eq_true] at h
    rw [flatSame1_eq h.1, flatSameL_eq h.2]
theorem avSame_eq {v u : AV} (h : avSame v u = true) : v = u := by
  unfold avSame at h
  split at h
  · rw [flatSameL_eq h]
  · rw [flatSameL_eq h]
  · exact flatSame1_eq h

/-! ## Memory, some of it to come -/
theorem Mem.sub {P : Program} {ρ : Rho} {h h' : AH} {w : World} (m : Mem P ρ h w) (hs : ∀ b o, Q.get b h'.tr = some o → Q.get b h.tr = some o) (hw : ∀ b o, Q.get b h'.tr = some o → num b < num h'.nx) : Mem P ρ h' w :=
  ⟨fun b o l h1 h2 => m.obj b o l (hs b o h1) h2, fun b b' o o' l l' h1 h2 h3 h4 h5 => m.apart b b' o o' l l' (hs b o h1) (hs b' o' h2) h3 h4 h5, m.glob, hw⟩
theorem Mem.late {P : Program} {ρ : Rho} {h : AH} {w : World} {b : Id} {o : AO} (m : Mem P ρ h w) (hb : Q.get b h.tr = some o) (hn : ρ b = none) (cap : Nat) (O : Obj) (ho : ObjOk (ρ.upd b ⟨w.heap.size, 0, cap⟩) ⟨w.heap.size, 0, cap⟩ (w.alloc O) o) :
    Mem P (ρ.upd b ⟨w.heap.size, 0, cap⟩) h (w.alloc O) := by
  have hle := Rho.le_upd ρ ⟨w.heap.size, 0, cap⟩ hn
  have far : ∀ x y k, Q.get x h.tr = some y → ρ x = some k → k.cb < w.heap.size := fun x y k hy hk => (m.obj x y k hy hk).lt
  refine ⟨fun x y k hy hk => ?_, fun x x' y y' k k' hy hy' hk hk' hne => ?_, m.glob_le hle, m.wf⟩
  · by_cases e : x = b
    · subst e; rw [hb] at hy; cases hy; rw [Rho.upd_same] at hk; cases hk; exact ho
    · rw [Rho.upd_other ρ _ e] at hk
      exact ObjOk.mono hle (alloc_old w O (far x y k hy hk)) (m.obj x y k hy hk)
  · by_cases e : x = b
    · by_cases e' : x' = b
      · exact absurd (e.trans e'.symm) hne
      · subst e; rw [Rho.upd_same] at hk; cases hk; rw [Rho.upd_other ρ _ e'] at hk'
        exact .inl (fun e2 => by have := far x' y' k' hy' hk'; simp only at e2; omega)
    · rw [Rho.upd_other ρ _ e] at hk
      by_cases e' : x' = b
      · subst e'; rw [Rho.upd_same] at hk'; cases hk'
        exact .inl (fun e2 => by have := far x y k hy hk; simp only at e2; omega)
      · rw [Rho.upd_other ρ _ e'] at hk'
        exact m.apart x x' y y' k k' hy hy' hk hk' hne
theorem Step.late {ρ0 ρ : Rho} {h0 h : AH} {w0 w : World} {b : Id} (s : Step ρ0 h0 w0 ρ h w) (hn : ρ b = none) (hb : num h0.nx ≤ num b ∧ num b < num h.nx) (cap : Nat) (O : Obj) : Step ρ0 h0 w0 (ρ.upd b ⟨w.heap.size, 0, cap⟩) h (w.alloc O) where
  ext := Rho.le_trans s.ext (Rho.le_upd ρ _ hn)
  dom x hx := by
    by_cases e : x = b
    · subst e; exact .inr hb
    · rw [Rho.upd_other ρ _ e] at hx; exact s.dom x hx
  nx := s.nx
  os := s.os
  tape := s.tape
  output := s.output
  size := by simp; exact Nat.le_succ_of_le s.size
  frame cb hcb hw := by rw [alloc_old w O (Nat.lt_of_lt_of_le hcb s.size), s.frame cb hcb hw]
  wr cb hcb := by
    obtain ⟨x, y, k, hy, hyr, hk, rfl⟩ := hcb
    by_cases e : x = b
    · subst e; rw [Rho.upd_same] at hk; cases hk; exact .inr s.size
    · rw [Rho.upd_other ρ _ e] at hk; exact s.wr _ ⟨x, y, k, hy, hyr, hk, rfl⟩
  own cb hcb := by
    obtain ⟨x, y, k, hy, hk, rfl⟩ := hcb
    by_cases e : x = b
    · subst e; rw [Rho.upd_same] at hk; cases hk; exact .inr s.size
    · rw [Rho.upd_other ρ _ e] at hk; exact s.own _ ⟨x, y, k, hy, hk, rfl⟩
  keeps := s.keeps
end Go.AX
/- The abstract executor: regions that draw their order: the memory, all to come laid in. -/
namespace Go.AX

noncomputable def addAl (al : Nat → Option (Id × AO)) : Nat → Nat → Q AO → Q AO
  | 0, _, t => t
  | k + 1, p, t => addAl al k (p + 1) (match al p with
    | some x => Q.set x.1 (some x.2) t
    | none => t)
theorem addAl_no {al : Nat → Option (Id × AO)} {b : Id} : ∀ (k p : Nat) (t : Q AO), (∀ j x, p ≤ j → j < p + k → al j = some x → x.1 ≠ b) → Q.get b (addAl al k p t) = Q.get b t
  | 0, _, _, _ => rfl
  | k + 1, p, t, h => by
    unfold addAl
    rw [addAl_no k (p + 1) _ fun j x h1 h2 h3 => h j x (by omega) (by omega) h3]
    cases ha : al p with
    | none => rfl
    | some x =>
      simp only
      rw [Q.get_set, if_neg (fun e => h p x (Nat.le_refl _) (by omega) ha e.symm)]
theorem addAl_yes {al : Nat → Option (Id × AO)} {b : Id} {o : AO} {j : Nat} (hj : al j = some (b, o)) : ∀ (k p : Nat) (t : Q AO), p ≤ j → j < p + k → (∀ j' x, j < j' → j' < p + k → al j' = some x → x.1 ≠ b) → Q.get b (addAl al k p t) = some o
  | 0, p, t, h1, h2, _ => by omega
  | k + 1, p, t, h1, h2, h3 => by
    unfold addAl
    by_cases e : p = j
    · subst e
      rw [addAl_no k (p + 1) _ fun j' x g1 g2 g3 => h3 j' x (by omega) (by omega) g3, hj]
      simp only
      rw [Q.get_set, if_pos rfl]
    · exact addAl_yes hj k (p + 1) _ (by omega) (by omega) fun j' x g1 g2 g3 => h3 j' x g1 (by omega) g3

structure Ctx (P : Program) (X : Ext) (call : CallH) (ops : Array Oper) (σ : Nat → DSt) (F : Nat → CE) (v : Nat → AV) (al : Nat → Option (Id × AO)) (lo re : Nat → Bool) (oks : Nat → List Nat) (bs : List Nat) : Prop where
  did : ∀ (i : Nat) (o : Oper), ops[i]? = some o → Did P X call ops o (F i) (F (i + 1)) (σ i) (σ (i + 1)) i (lo i) (re i) (oks i) (v i) (al i)
  prog : ∀ i, i ≤ ops.size → (F i).P = P
  ord : OrdOk ops bs
  wr : ∀ (i : Nat) (o : Oper) (t : Nat), ops[i]? = some o → t ∈ o.looksAt ops → ∀ (j : Nat) (x : Oper), ops[j]? = some x → x.dst = some t → (bsOf bs i).testBit j = true ∨ (bsOf bs j).testBit i = true
  nd : ∀ (i j : Nat) (x y : Oper) (t : Nat), ops[i]? = some x → ops[j]? = some y → x.dst = some t → y.dst = some t → i = j
  tot : ∀ a b, a < ops.size → b < ops.size → lo a = true → lo b = true → a < b → (bsOf bs b).testBit a = true
  ok : ∀ i p, i < ops.size → re i = true → p ≤ ops.size → (∀ a, a < ops.size → lo a = true → ((bsOf bs i).testBit a = true → a < p) ∧ ((bsOf bs a).testBit i = true → ¬ a < p)) → p ∈ oks i
  ag : agreeAll (σ ops.size).ps (σ ops.size).hs = .ok ()
  h0 : (0, (σ 0).hp) ∈ (σ 0).hs
  mono : ∀ i, i < ops.size → num (σ i).hp.nx ≤ num (σ (i + 1)).hp.nx

section
variable {P : Program} {X : Ext} {call : CallH} {ops : Array Oper} {σ : Nat → DSt} {F : Nat → CE} {v : Nat → AV} {al : Nat → Option (Id × AO)} {lo re : Nat → Bool} {oks : Nat → List Nat} {bs : List Nat}
theorem getOp {i : Nat} (hi : i < ops.size) : ∃ o, ops[i]? = some o := ⟨ops[i], by simp [hi]⟩
theorem Ctx.le (C : Ctx P X call ops σ F v al lo re oks bs) {i : Nat} : ∀ {j : Nat}, i ≤ j → j ≤ ops.size → num (σ i).hp.nx ≤ num (σ j).hp.nx
  | 0, h1, _ => by
    have : i = 0 := by omega
    subst this; exact Nat.le_refl _
  | j + 1, h1, h2 => by
    by_cases e : i = j + 1
    · subst e; exact Nat.le_refl _
    · exact Nat.le_trans (C.le (j := j) (by omega) (by omega)) (C.mono j (by omega))
theorem Ctx.al_at (C : Ctx P X call ops σ F v al lo re oks bs) {i : Nat} {x : Id × AO} (hi : i < ops.size) (h : al i = some x) : x.1 = (σ i).hp.nx ∧ (σ (i + 1)).hp = (σ i).hp.alloc x.2 ∧ lo i = false := by
  obtain ⟨o, ho⟩ := getOp hi
  rcases (C.did i o ho).how with h1 | h1 | h1 | h1 | h1
  · rw [h1.1] at h; cases h
  · rw [h1.1] at h; cases h
  · rw [h1.1] at h; cases h
  · obtain ⟨_, h2, f, ob, _, _, h3, h4⟩ := h1
    rw [h4] at h; cases h
    exact ⟨rfl, h3, h2⟩
  · rw [h1.1] at h; cases h
theorem Ctx.quiet (C : Ctx P X call ops σ F v al lo re oks bs) {i : Nat} (hi : i < ops.size) (hq : lo i = false) : (al i = none ∧ (σ (i + 1)).hp = (σ i).hp) ∨ ∃ ob, al i = some ((σ i).hp.nx, ob) ∧ (σ (i + 1)).hp = (σ i).hp.alloc ob := by
  obtain ⟨o, ho⟩ := getOp hi
  rcases (C.did i o ho).how with h1 | h1 | h1 | h1 | h1
  · exact .inl ⟨h1.1, h1.2.2.2⟩
  · exact .inl ⟨h1.1, h1.2.2.1⟩
  · exact .inl ⟨h1.1, h1.2.2.1⟩
  · obtain ⟨_, h2, f, ob, _, _, h3, h4⟩ := h1
    exact .inr ⟨ob, h4, h3⟩
  · rw [hq] at h1; cases h1.2.2.1
theorem Ctx.al_lt (C : Ctx P X call ops σ F v al lo re oks bs) {j k : Nat} {x : Id × AO} (hj : j < ops.size) (h : al j = some x) (hk : j < k) (hkn : k ≤ ops.size) : num x.1 < num (σ k).hp.nx := by
  obtain ⟨h1, h2, _⟩ := C.al_at hj h
  have h3 := C.le (i := j + 1) (j := k) (by omega) hkn
  rw [h2, nx_alloc] at h3
  rw [h1]; omega
theorem Ctx.al_ge (C : Ctx P X call ops σ F v al lo re oks bs) {j k : Nat} {x : Id × AO} (hj : j < ops.size) (h : al j = some x) (hk : k ≤ j) : num (σ k).hp.nx ≤ num x.1 := by
  obtain ⟨h1, h2, _⟩ := C.al_at hj h
  rw [h1]
  exact C.le hk (by omega)
theorem Ctx.al_ne (C : Ctx P X call ops σ F v al lo re oks bs) {j k : Nat} {x y : Id × AO} (hj : j < ops.size) (hk : k < ops.size) (hx : al j = some x) (hy : al k = some y) (h : j ≠ k) : x.1 ≠ y.1 := by
  intro e
  rcases Nat.lt_or_gt_of_ne h with h1 | h1
  · have a := C.al_lt hj hx h1 (by omega)
    have b := C.al_ge hk hy (Nat.le_refl k)
    rw [e] at a; omega
  · have a := C.al_lt hk hy h1 (by omega)
    have b := C.al_ge hj hx (Nat.le_refl j)
    rw [e] at b; omega
end
/-- The memory behind place p, all objects to come laid in. -/
noncomputable def Gat (n : Nat) (σ : Nat → DSt) (al : Nat → Option (Id × AO)) (p : Nat) : AH := ⟨addAl al (n - p) p (σ p).hp.tr, (σ n).hp.nx⟩
section
variable {P : Program} {X : Ext} {call : CallH} {ops : Array Oper} {σ : Nat → DSt} {F : Nat → CE} {v : Nat → AV} {al : Nat → Option (Id × AO)} {lo re : Nat → Bool} {oks : Nat → List Nat} {bs : List Nat}
theorem Gat_same {n p : Nat} (hp : p < n) (h1 : al p = none) (h2 : (σ (p + 1)).hp = (σ p).hp) : Gat n σ al p = Gat n σ al (p + 1) := by
  unfold Gat
  have e : n - p = (n - (p + 1)) + 1 := by omega
  rw [e]
  show (⟨addAl al (n - (p + 1)) (p + 1) _, _⟩ : AH) = _
  rw [h1, h2]
theorem Gat_alloc {n p : Nat} {ob : AO} (hp : p < n) (h1 : al p = some ((σ p).hp.nx, ob)) (h2 : (σ (p + 1)).hp = (σ p).hp.alloc ob) : Gat n σ al p = Gat n σ al (p + 1) := by
  unfold Gat
  have e : n - p = (n - (p + 1)) + 1 := by omega
  rw [e]
  show (⟨addAl al (n - (p + 1)) (p + 1) _, _⟩ : AH) = _
  rw [h1, h2]
  rfl
theorem Ctx.G_eq (C : Ctx P X call ops σ F v al lo re oks bs) {p : Nat} : ∀ {i : Nat}, p ≤ i → i ≤ ops.size → (∀ j, p ≤ j → j < i → lo j = false) → Gat ops.size σ al p = Gat ops.size σ al i
  | 0, h1, _, _ => by
    have : p = 0 := by omega
    subst this; rfl
  | i + 1, h1, h2, h3 => by
    by_cases e : p = i + 1
    · subst e; rfl
    · rw [C.G_eq (i := i) (by omega) (by omega) fun j g1 g2 => h3 j g1 (by omega)]
      rcases C.quiet (i := i) (by omega) (h3 i (by omega) (by omega)) with ⟨g1, g2⟩ | ⟨ob, g1, g2⟩
      · exact Gat_same (by omega) g1 g2
      · exact Gat_alloc (by omega) g1 g2
theorem Ctx.wf_eq (C : Ctx P X call ops σ F v al lo re oks bs) {p : Nat} (hw : ∀ b o, Q.get b (σ p).hp.tr = some o → num b < num (σ p).hp.nx) : ∀ {i : Nat}, p ≤ i → i ≤ ops.size → (∀ j, p ≤ j → j < i → lo j = false) → ∀ b o, Q.get b (σ i).hp.tr = some o → num b < num (σ i).hp.nx
  | 0, h1, _, _ => by
    have : p = 0 := by omega
    subst this; exact hw
  | i + 1, h1, h2, h3 => by
    by_cases e : p = i + 1
    · subst e; exact hw
    · have ih := C.wf_eq hw (i := i) (by omega) (by omega) fun j g1 g2 => h3 j g1 (by omega)
      rcases C.quiet (i := i) (by omega) (h3 i (by omega) (by omega)) with ⟨g1, g2⟩ | ⟨ob, g1, g2⟩
      · rw [g2]; exact ih
      · intro b o hb
        rw [g2, get_alloc] at hb
        rw [g2, nx_alloc]
        split at hb
        · rename_i e; subst e; omega
        · have := ih b o hb; omega
theorem Ctx.G_old (C : Ctx P X call ops σ F v al lo re oks bs) {p : Nat} (hp : p ≤ ops.size) {b : Id} (hb : num b < num (σ p).hp.nx) : Q.get b (Gat ops.size σ al p).tr = Q.get b (σ p).hp.tr :=
  addAl_no _ _ _ fun j x h1 h2 h3 e => by
    have := C.al_ge (k := p) (by omega) h3 h1
    rw [e] at this; omega
theorem Ctx.G_al (C : Ctx P X call ops σ F v al lo re oks bs) {p j : Nat} {x : Id × AO} (h1 : p ≤ j) (h2 : j < ops.size) (h3 : al j = some x) : Q.get x.1 (Gat ops.size σ al p).tr = some x.2 :=
  addAl_yes h3 _ _ _ h1 (by omega) fun j' y g1 g2 g3 e => C.al_ne (by omega) h2 g3 h3 (by omega) e
theorem Ctx.G_inv (C : Ctx P X call ops σ F v al lo re oks bs) {p : Nat} (hp : p ≤ ops.size) {b : Id} {o : AO} (h : Q.get b (Gat ops.size σ al p).tr = some o) :
    (∃ j x, p ≤ j ∧ j < ops.size ∧ al j = some x ∧ b = x.1 ∧ o = x.2) ∨ ((∀ j x, p ≤ j → j < ops.size → al j = some x → x.1 ≠ b) ∧ Q.get b (σ p).hp.tr = some o) := by
  by_cases hx : ∃ j x, p ≤ j ∧ j < ops.size ∧ al j = some x ∧ b = x.1
  · obtain ⟨j, x, h1, h2, h3, rfl⟩ := hx
    refine .inl ⟨j, x, h1, h2, h3, rfl, ?_⟩
    rw [C.G_al h1 h2 h3] at h
    exact (Option.some.inj h).symm
  · have hno : ∀ j x, p ≤ j → j < ops.size → al j = some x → x.1 ≠ b := fun j x h1 h2 h3 e => hx ⟨j, x, h1, h2, h3, e.symm⟩
    refine .inr ⟨hno, ?_⟩
    rw [← h]
    exact (addAl_no _ _ _ fun j x h1 h2 h3 => hno j x h1 (by omega) h3).symm
/-! ## Slots -/
structure Src (σ : Nat → DSt) (F : Nat → CE) (v : Nat → AV) (ops : Array Oper) (i : Nat) : Prop where
  mask : (F i).mask = (F 0).mask
  nt : (F i).nt = (F 0).nt
  grows : Grows (F 0) (σ 0).l (F i) (σ i).l
  slot : ∀ (t : Nat) (u : AV), (F 0).mask.testBit t = true → Q.get (pathOf t) (σ i).tm = some u → (∃ j x, j < i ∧ ops[j]? = some x ∧ x.dst = some t ∧ u = v j) ∨ ((∀ j x, j < i → ops[j]? = some x → x.dst ≠ some t) ∧ Q.get (pathOf t) (σ 0).tm = some u)
  near : ∀ (k t : Nat) (u : AV), (F i).ns[k]? = some t → (σ i).l[k]? = some u → (F 0).mask.testBit t = false ∧ ((∃ j x, j < i ∧ ops[j]? = some x ∧ x.dst = some t ∧ u = v j) ∨ ((∀ j x, j < i → ops[j]? = some x → x.dst ≠ some t) ∧ ∃ k0 : Nat, (F 0).ns[k0]? = some t ∧ (σ 0).l[k0]? = some u))
theorem Ctx.src (C : Ctx P X call ops σ F v al lo re oks bs) (hn : ∀ (k t : Nat), (F 0).ns[k]? = some t → (F 0).mask.testBit t = false) : ∀ {i : Nat}, i ≤ ops.size → Src σ F v ops i
  | 0, _ => ⟨rfl, rfl, Grows.refl _ _, fun t u _ h => .inr ⟨fun j x hj => by omega, h⟩, fun k t u h1 h2 => ⟨hn k t h1, .inr ⟨fun j x hj => by omega, k, h1, h2⟩⟩⟩
  | i + 1, hi => by
    have ih := C.src hn (i := i) (by omega)
    obtain ⟨o, ho⟩ := getOp (ops := ops) (i := i) (by omega)
    obtain ⟨dd, hd, hl, ht⟩ := (C.did i o ho).dst
    generalize hod : o.dst = d at hd
    have keepS : ∀ {t : Nat} {u : AV}, o.dst ≠ some t → ((∃ j x, j < i ∧ ops[j]? = some x ∧ x.dst = some t ∧ u = v j) → ∃ j x, j < i + 1 ∧ ops[j]? = some x ∧ x.dst = some t ∧ u = v j) ∧ ((∀ j x, j < i → ops[j]? = some x → x.dst ≠ some t) → ∀ j x, j < i + 1 → ops[j]? = some x → x.dst ≠ some t) := by
      intro t u hne
      refine ⟨fun ⟨j, x, h1, h2, h3, h4⟩ => ⟨j, x, by omega, h2, h3, h4⟩, fun h j x hj hx => ?_⟩
      by_cases e : j = i
      · subst e; rw [ho] at hx; cases hx; exact hne
      · exact h j x (by omega) hx
    have keep : ∀ {t : Nat} {u : AV} {r : Prop}, o.dst ≠ some t → ((∃ j x, j < i ∧ ops[j]? = some x ∧ x.dst = some t ∧ u = v j) ∨ ((∀ j x, j < i → ops[j]? = some x → x.dst ≠ some t) ∧ r)) →
        ((∃ j x, j < i + 1 ∧ ops[j]? = some x ∧ x.dst = some t ∧ u = v j) ∨ ((∀ j x, j < i + 1 → ops[j]? = some x → x.dst ≠ some t) ∧ r)) := by
      intro t u r hne h
      rcases h with h | ⟨h, hr⟩
      · exact .inl ((keepS (u := u) hne).1 h)
      · exact .inr ⟨(keepS (u := u) hne).2 h, hr⟩
    cases d with
    | none =>
      have hd : R.ok (Dst.no, F i) = .ok (dd, F (i + 1)) := hd
      have e1 : dd = .no := by injection hd with h; exact (congrArg Prod.fst h).symm
      have e2 : F (i + 1) = F i := by injection hd with h; exact (congrArg Prod.snd h).symm
      subst e1
      have hl : (σ (i + 1)).l = (σ i).l := hl
      have ht : (σ (i + 1)).tm = (σ i).tm := ht
      refine ⟨by rw [e2]; exact ih.mask, by rw [e2]; exact ih.nt, by rw [e2, hl]; exact ih.grows, fun t u h1 h2 => ?_, fun k t u h1 h2 => ?_⟩
      · rw [ht] at h2; exact keep (by rw [hod]; simp) (ih.slot t u h1 h2)
      · rw [e2] at h1
        rw [hl] at h2
        obtain ⟨g1, g2⟩ := ih.near k t u h1 h2
        exact ⟨g1, keep (by rw [hod]; simp) g2⟩
    | some d =>
      obtain ⟨h1, h2⟩ := tst_eq.1 hd
      rw [bsel_eq] at h2
      split at h2
      · rename_i hm
        have e1 : dd = .slot (pathOf d) := by injection h2 with h; exact (congrArg Prod.fst h).symm
        have e2 : F (i + 1) = F i := by injection h2 with h; exact (congrArg Prod.snd h).symm
        subst e1
        have hl : (σ (i + 1)).l = (σ i).l := hl
        have ht : (σ (i + 1)).tm = Q.set (pathOf d) (some (v i)) (σ i).tm := ht
        refine ⟨by rw [e2]; exact ih.mask, by rw [e2]; exact ih.nt, by rw [e2, hl]; exact ih.grows, fun t u g1 g2 => ?_, fun k t u g1 g2 => ?_⟩
        · rw [ht, Q.get_set] at g2
          split at g2
          · rename_i e
            have := pathOf_inj e
            subst this
            cases g2
            exact .inl ⟨i, o, by omega, ho, hod, rfl⟩
          · rename_i e
            exact keep (by rw [hod]; intro e'; cases e'; exact e rfl) (ih.slot t u g1 g2)
        · rw [e2] at g1
          rw [hl] at g2
          obtain ⟨g3, g4⟩ := ih.near k t u g1 g2
          refine ⟨g3, keep ?_ g4⟩
          rw [hod]
          intro e
          cases e
          rw [ih.mask, g3] at hm; cases hm
      · rename_i hm
        generalize hi2 : idxOf d (F i).ns 0 = r at h2
        cases r with
        | ok k => cases h2
        | err _ =>
          have h2 : R.ok (Dst.loc, (⟨(F i).P, (F i).nt, (F i).mask, d :: (F i).ns⟩ : CE)) = .ok (dd, F (i + 1)) := h2
          have e1 : dd = .loc := by injection h2 with h; exact (congrArg Prod.fst h).symm
          have e2 : F (i + 1) = ⟨(F i).P, (F i).nt, (F i).mask, d :: (F i).ns⟩ := by injection h2 with h; exact (congrArg Prod.snd h).symm
          subst e1
          have hl : (σ (i + 1)).l = v i :: (σ i).l := hl
          have ht : (σ (i + 1)).tm = (σ i).tm := ht
          have hno : ∀ j : Nat, (F i).ns[j]? ≠ some d := fun j hj => by
            obtain ⟨k, hk⟩ := idxOf_some (i := 0) hj
            rw [hk] at hi2; cases hi2
          have hgr : Grows (F i) (σ i).l (F (i + 1)) (σ (i + 1)).l := by rw [e2, hl]; exact ⟨⟨[v i], [d], rfl, rfl, rfl⟩, rfl, rfl, rfl⟩
          refine ⟨by rw [e2]; exact ih.mask, by rw [e2]; exact ih.nt, ih.grows.trans hgr, fun t u g1 g2 => ?_, fun k t u g1 g2 => ?_⟩
          · rw [ht] at g2
            refine keep ?_ (ih.slot t u g1 g2)
            rw [hod]
            intro e
            cases e
            rw [ih.mask] at hm; exact hm g1
          · rw [e2] at g1
            rw [hl] at g2
            cases k with
            | zero =>
              have g1 : some d = some t := g1
              have g2 : some (v i) = some u := g2
              cases g1; cases g2
              exact ⟨by rw [← ih.mask]; simpa using hm, .inl ⟨i, o, by omega, ho, hod, rfl⟩⟩
            | succ k =>
              have g1 : (F i).ns[k]? = some t := g1
              have g2 : (σ i).l[k]? = some u := g2
              obtain ⟨g3, g4⟩ := ih.near k t u g1 g2
              exact ⟨g3, keep (by rw [hod]; intro e; cases e; exact hno k g1) g4⟩
end
end Go.AX
/- The abstract executor: regions that draw their order: one operation more. -/
namespace Go.AX
section
variable {P : Program} {X : Ext} {call : CallH} {ops : Array Oper} {σ : Nat → DSt} {F : Nat → CE} {v : Nat → AV} {al : Nat → Option (Id × AO)} {lo re : Nat → Bool} {oks : Nat → List Nat} {bs : List Nat}
structure Inv (P : Program) (ops : Array Oper) (σ : Nat → DSt) (F : Nat → CE) (v : Nat → AV) (al : Nat → Option (Id × AO)) (lo : Nat → Bool) (bs : List Nat) (ρ0 : Rho) (a0 : Act) (w0 : World) (S : Nat → Prop) (a : Act) (w : World) (ρ : Rho) (p : Nat) : Prop where
  closed : ∀ i j, S i → (bsOf bs i).testBit j = true → S j
  lt : ∀ i, S i → i < ops.size
  pn : p ≤ ops.size
  ld : ∀ b, b < ops.size → lo b = true → (S b ↔ b < p)
  hp : (p, (σ p).hp) ∈ (σ ops.size).hs
  size : a.tmps.size = (F 0).nt
  done : ∀ (j : Nat) (x : Oper) (t : Nat), S j → ops[j]? = some x → x.dst = some t → ∃ y, a.tmps[t]? = some y ∧ den ρ (v j) = some y
  still : ∀ t : Nat, (∀ (j : Nat) (x : Oper), S j → ops[j]? = some x → x.dst ≠ some t) → a.tmps[t]? = a0.tmps[t]?
  df : a.defers = a0.defers
  mem : Mem P ρ (Gat ops.size σ al p) w
  step : Step ρ0 (σ 0).hp w0 ρ (Gat ops.size σ al p) w
  undone : ∀ (j : Nat) (x : Id × AO), j < ops.size → al j = some x → ¬ S j → ρ x.1 = none ∧ Q.get x.1 (Gat ops.size σ al p).tr = some x.2
  fut : ∀ b, num (σ p).hp.nx ≤ num b → num b < num (σ ops.size).hp.nx → ρ b ≠ none → ∃ (j : Nat) (x : Id × AO), p ≤ j ∧ j < ops.size ∧ al j = some x ∧ S j ∧ b = x.1
  wf : ∀ b o, Q.get b (σ p).hp.tr = some o → num b < num (σ p).hp.nx
  plain : ∀ (j : Nat) (x : Id × AO), j < ops.size → al j = some x → S j → x.2.ro = false

def Add (S : Nat → Prop) (i : Nat) : Nat → Prop := fun j => S j ∨ j = i
theorem hs_mono (C : Ctx P X call ops σ F v al lo re oks bs) {i : Nat} : ∀ {j : Nat}, i ≤ j → j ≤ ops.size → (∀ e, e ∈ (σ i).hs → e ∈ (σ j).hs) ∧ (∀ e, e ∈ (σ i).ps → e ∈ (σ j).ps)
  | 0, h1, _ => by
    have : i = 0 := by omega
    subst this; exact ⟨fun _ h => h, fun _ h => h⟩
  | j + 1, h1, h2 => by
    by_cases e : i = j + 1
    · subst e; exact ⟨fun _ h => h, fun _ h => h⟩
    · obtain ⟨g1, g2⟩ := hs_mono C (i := i) (j := j) (by omega) (by omega)
      obtain ⟨o, ho⟩ := getOp (ops := ops) (i := j) (by omega)
      have d := C.did j o ho
      exact ⟨fun x h => d.hs x (g1 x h), fun x h => d.ps x (g2 x h)⟩
/-- What a slot holds when it is looked at. -/
theorem Inv.tmp {ρ0 : Rho} {a0 : Act} {w0 : World} {S : Nat → Prop} {a : Act} {w : World} {ρ : Rho} {p : Nat} (C : Ctx P X call ops σ F v al lo re oks bs) (he0 : EnvOk ρ0 (F 0) (σ 0).l (σ 0).tm a0.tmps) (I : Inv P ops σ F v al lo bs ρ0 a0 w0 S a w ρ p)
    {i : Nat} {o : Oper} (ho : ops[i]? = some o) (hS : ¬ S i) (hb : ∀ j, (bsOf bs i).testBit j = true → S j) {t : Nat} (ht : t ∈ o.looksAt ops) {f : Opd} {u : AV} (hf : (F i).opd (.tmp t) = .ok f) (hu : f (σ i).l (σ i).tm = .ok u) :
    ∃ y, a.tmps[t]? = some y ∧ den ρ u = some y := by
  have hi : i < ops.size := (Array.getElem?_eq_some_iff.1 ho).1
  have hn : ∀ (k t : Nat), (F 0).ns[k]? = some t → (F 0).mask.testBit t = false := by
    intro k t hk
    have hlt := (List.getElem?_eq_some_iff.1 hk).1
    rw [← he0.len] at hlt
    exact (he0.near k t (σ 0).l[k] hk (List.getElem?_eq_getElem hlt)).1
  have src := C.src hn (i := i) (by omega)
  have fin : ∀ (r : Prop), (r → ∃ y, a0.tmps[t]? = some y ∧ den ρ0 u = some y) → ((∃ j x, j < i ∧ ops[j]? = some x ∧ x.dst = some t ∧ u = v j) ∨ ((∀ j x, j < i → ops[j]? = some x → x.dst ≠ some t) ∧ r)) → ∃ y, a.tmps[t]? = some y ∧ den ρ u = some y := by
    intro r hr h
    rcases h with ⟨j, x, h1, h2, h3, rfl⟩ | ⟨h1, h2⟩
    · have hSj : S j := by
        rcases C.wr i o t ho ht j x h2 h3 with h4 | h4
        · exact hb j h4
        · have := C.ord.less j i x h2 h4; omega
      exact I.done j x t hSj h2 h3
    · obtain ⟨y, g1, g2⟩ := hr h2
      refine ⟨y, ?_, den_mono I.step.ext g2⟩
      rw [I.still t, g1]
      intro j x hj hx hd
      by_cases hlt : j < i
      · exact h1 j x hlt hx hd
      · rcases C.wr i o t ho ht j x hx hd with h4 | h4
        · have := C.ord.less i j o ho h4; omega
        · exact hS (I.closed j i hj h4)
  have hf : bsel ((F i).mask.testBit t) (.ok (T (pathOf t))) ((idxOf t (F i).ns 0).bind fun k => .ok (L k)) = .ok f := hf
  rw [bsel_eq, src.mask] at hf
  split at hf
  · rename_i hm
    cases hf
    exact fin _ (fun h => he0.slot t u hm h) (src.slot t u hm (Q.at_eq.1 hu))
  · obtain ⟨k, h1, h2⟩ := bind_eq.1 hf
    cases h2
    obtain ⟨j, rfl, h3⟩ := idxOf_ok h1
    have hu := ofOpt_eq.1 hu
    rw [nth_eq, Nat.zero_add] at hu
    exact fin _ (fun ⟨k0, h4, h5⟩ => (he0.near k0 t u h4 h5).2) (src.near j t u h3 hu).2
theorem Inv.opds {ρ0 : Rho} {a0 : Act} {w0 : World} {S : Nat → Prop} {a : Act} {w : World} {ρ : Rho} {p : Nat} (C : Ctx P X call ops σ F v al lo re oks bs) (he0 : EnvOk ρ0 (F 0) (σ 0).l (σ 0).tm a0.tmps) (I : Inv P ops σ F v al lo bs ρ0 a0 w0 S a w ρ p)
    {i : Nat} {o : Oper} (ho : ops[i]? = some o) (hS : ¬ S i) (hb : ∀ j, (bsOf bs i).testBit j = true → S j) : OpdsOk ρ (F i) (σ i).l (σ i).tm a.eval o := by
  intro x hx f u hf hu
  have hi : i < ops.size := (Array.getElem?_eq_some_iff.1 ho).1
  cases x with
  | tmp t =>
    have ht : t ∈ o.looksAt ops := by
      unfold Oper.looksAt
      refine List.mem_append_left _ ?_
      exact List.mem_filterMap.2 ⟨.tmp t, hx, rfl⟩
    obtain ⟨y, h1, h2⟩ := I.tmp C he0 ho hS hb ht hf hu
    have : a.eval (.tmp t) = y := by
      show a.tmps.getD t undef = y
      rw [Array.getD_eq_getD_getElem?, h1]; rfl
    rw [this]; exact h2
  | const c =>
    obtain ⟨av, h1, h2⟩ := bind_eq.1 hf
    cases h2
    cases hu
    exact absV_ok h1
  | global g =>
    obtain ⟨h1, h2⟩ := tst_eq.1 hf
    cases h2
    cases hu
    rw [natBlt_eq, C.prog i (by omega)] at h1
    obtain ⟨c, hc⟩ := I.mem.glob g h1
    exact den_ptr ρ hc 0
  | func f =>
    cases hf
    cases hu
    simp only [den, denL]
    rfl
theorem wanted_core {ρ : Rho} {a : Act} {o : Oper} {j : Nat} {want : Bool} {t : Nat} {u : AV} {y : Value} (hg : o.guard = some (j, want)) (ht : ((ops[j]?).bind (·.dst)) = some t) (h1 : a.tmps[t]? = some y) (h2 : den ρ u = some y) : Region.wanted o (yielded ops a.tmps) = wantB want u := by
  have e1 : yielded ops a.tmps j = match y with
    | .bool b => some b
    | _ => none := by
    unfold yielded
    rw [ht]
    simp only [Option.bind_some, h1]
    cases y <;> rfl
  simp only [Region.wanted, hg, e1]
  cases u with
  | bool b =>
    rw [den_bool] at h2
    cases h2
    show (some b == some want) = bEq b want
    rw [bEq_eq]; rfl
  | _ =>
    cases y with
    | bool b => exact absurd (den_bool_eq h2) (by simp)
    | _ => rfl
theorem Inv.wanted {ρ0 : Rho} {a0 : Act} {w0 : World} {S : Nat → Prop} {a : Act} {w : World} {ρ : Rho} {p : Nat} (C : Ctx P X call ops σ F v al lo re oks bs) (he0 : EnvOk ρ0 (F 0) (σ 0).l (σ 0).tm a0.tmps) (I : Inv P ops σ F v al lo bs ρ0 a0 w0 S a w ρ p)
    {i : Nat} {o : Oper} (ho : ops[i]? = some o) (hS : ¬ S i) (hb : ∀ j, (bsOf bs i).testBit j = true → S j) {on : Bool} (hg : GOk ops o (F i) (σ i).l (σ i).tm on) : Region.wanted o (yielded ops a.tmps) = on := by
  rcases hg with ⟨h1, h2⟩ | ⟨j, want, t, g, u, h1, h2, h3, h4, h5⟩
  · subst h2; simp [Region.wanted, h1]
  · have ht : t ∈ o.looksAt ops := by
      unfold Oper.looksAt
      refine List.mem_append_right _ ?_
      rw [h1]
      simp only
      rw [h2]
      simp
    obtain ⟨y, g1, g2⟩ := I.tmp C he0 ho hS hb ht h3 h4
    rw [wanted_core h1 h2 g1 g2, h5]
/-- The slots behind one operation more. -/
theorem Inv.put {ρ0 : Rho} {a0 : Act} {w0 : World} {S : Nat → Prop} {a : Act} {w : World} {ρ ρ' : Rho} {p : Nat} (C : Ctx P X call ops σ F v al lo re oks bs) (he0 : EnvOk ρ0 (F 0) (σ 0).l (σ 0).tm a0.tmps) (I : Inv P ops σ F v al lo bs ρ0 a0 w0 S a w ρ p)
    {i : Nat} {o : Oper} (ho : ops[i]? = some o) (hl : ρ.le ρ') {x : Value} (hx : den ρ' (v i) = some x) :
    (a.put o.dst x).tmps.size = (F 0).nt ∧ (∀ (j : Nat) (z : Oper) (t : Nat), Add S i j → ops[j]? = some z → z.dst = some t → ∃ y, (a.put o.dst x).tmps[t]? = some y ∧ den ρ' (v j) = some y) ∧
    (∀ t : Nat, (∀ (j : Nat) (z : Oper), Add S i j → ops[j]? = some z → z.dst ≠ some t) → (a.put o.dst x).tmps[t]? = a0.tmps[t]?) ∧ (a.put o.dst x).defers = a0.defers := by
  have hi : i < ops.size := (Array.getElem?_eq_some_iff.1 ho).1
  have hn : ∀ (k t : Nat), (F 0).ns[k]? = some t → (F 0).mask.testBit t = false := by
    intro k t hk
    have hlt := (List.getElem?_eq_some_iff.1 hk).1
    rw [← he0.len] at hlt
    exact (he0.near k t (σ 0).l[k] hk (List.getElem?_eq_getElem hlt)).1
  have src := C.src hn (i := i) (by omega)
  obtain ⟨dd, hd, _, _⟩ := (C.did i o ho).dst
  have hbound : ∀ d, o.dst = some d → d < a.tmps.size := by
    intro d e
    rw [e] at hd
    obtain ⟨h1, _⟩ := tst_eq.1 hd
    rw [natBlt_eq, src.nt] at h1
    rw [I.size]; exact h1
  have get : ∀ t, (a.put o.dst x).tmps[t]? = if o.dst = some t then some x else a.tmps[t]? := by
    intro t
    cases hod : o.dst with
    | none => simp [Act.put]
    | some d =>
      rw [put_tmps a d x t (hbound d hod)]
      by_cases e : d = t
      · subst e; simp
      · rw [if_neg e, if_neg (by simpa using e)]
  refine ⟨?_, fun j z t hj hz hzd => ?_, fun t ht => ?_, by rw [put_defers]; exact I.df⟩
  · rw [← I.size]
    cases o.dst with
    | none => rfl
    | some d => show (a.tmps.setIfInBounds d x).size = _; simp
  · rw [get]
    rcases hj with hj | rfl
    · by_cases e : o.dst = some t
      · have := C.nd i j o z t ho hz e hzd
        subst this
        exact ⟨x, by rw [if_pos e], hx⟩
      · rw [if_neg e]
        obtain ⟨y, h1, h2⟩ := I.done j z t hj hz hzd
        exact ⟨y, h1, den_mono hl h2⟩
    · rw [ho] at hz
      cases hz
      exact ⟨x, by rw [if_pos hzd], hx⟩
  · rw [get, if_neg (ht i o (.inr rfl) ho)]
    exact I.still t fun j z hj hz => ht j z (.inl hj) hz
end
end Go.AX
/- The abstract executor: regions that draw their order: each kind of operation. -/
namespace Go.AX
section
variable {P : Program} {X : Ext} {call : CallH} {ops : Array Oper} {σ : Nat → DSt} {F : Nat → CE} {v : Nat → AV} {al : Nat → Option (Id × AO)} {lo re : Nat → Bool} {oks : Nat → List Nat} {bs : List Nat}
  {ρ0 : Rho} {a0 : Act} {w0 : World} {S : Nat → Prop} {a : Act} {w : World} {ρ : Rho} {p : Nat} {i : Nat} {o : Oper}

theorem Inv.gap (C : Ctx P X call ops σ F v al lo re oks bs) (I : Inv P ops σ F v al lo bs ρ0 a0 w0 S a w ρ p) (hi : i < ops.size) (hS : ¬ S i) (hb : ∀ j, (bsOf bs i).testBit j = true → S j) (hl : lo i = true) : p ≤ i ∧ ∀ j, p ≤ j → j < i → lo j = false := by
  have h1 : p ≤ i := by
    apply Nat.le_of_not_lt
    intro h
    exact hS ((I.ld i hi hl).2 h)
  refine ⟨h1, fun j g1 g2 => ?_⟩
  cases hj : lo j with
  | false => rfl
  | true =>
    have := (I.ld j (by omega) hj).1 (hb j (C.tot j i (by omega) hi hj hl g2))
    omega
theorem add_closed (I : Inv P ops σ F v al lo bs ρ0 a0 w0 S a w ρ p) (hb : ∀ j, (bsOf bs i).testBit j = true → S j) : ∀ k j, Add S i k → (bsOf bs k).testBit j = true → Add S i j := by
  intro k j hk hj
  rcases hk with hk | rfl
  · exact .inl (I.closed k j hk hj)
  · exact .inl (hb j hj)
theorem add_lt (I : Inv P ops σ F v al lo bs ρ0 a0 w0 S a w ρ p) (hi : i < ops.size) : ∀ j, Add S i j → j < ops.size := by
  intro j hj
  rcases hj with hj | rfl
  · exact I.lt j hj
  · exact hi
/-- An operation that changes no memory and is not loud. -/
theorem Inv.quiet (C : Ctx P X call ops σ F v al lo re oks bs) (he0 : EnvOk ρ0 (F 0) (σ 0).l (σ 0).tm a0.tmps) (I : Inv P ops σ F v al lo bs ρ0 a0 w0 S a w ρ p) (ho : ops[i]? = some o) (hb : ∀ j, (bsOf bs i).testBit j = true → S j)
    (hq : lo i = false) (ha : al i = none) {x : Value} (hx : den ρ (v i) = some x) : Inv P ops σ F v al lo bs ρ0 a0 w0 (Add S i) (a.put o.dst x) w ρ p := by
  have hi : i < ops.size := (Array.getElem?_eq_some_iff.1 ho).1
  obtain ⟨g1, g2, g3, g4⟩ := I.put C he0 ho (Rho.le_refl ρ) hx
  refine ⟨add_closed I hb, add_lt I hi, I.pn, fun b h1 h2 => ?_, I.hp, g1, g2, g3, g4, I.mem, I.step, fun j y h1 h2 h3 => I.undone j y h1 h2 fun h => h3 (.inl h), fun b h1 hN h2 => ?_, I.wf, fun j y h1 h2 h3 => ?_⟩
  · rw [← I.ld b h1 h2]
    constructor
    · rintro (h | rfl)
      · exact h
      · rw [hq] at h2; cases h2
    · exact .inl
  · obtain ⟨j, y, e1, e2, e3, e4, e5⟩ := I.fut b h1 hN h2
    exact ⟨j, y, e1, e2, e3, .inl e4, e5⟩
  · rcases h3 with h3 | rfl
    · exact I.plain j y h1 h2 h3
    · rw [ha] at h2; cases h2
/-- A loud operation that was not wanted. -/
theorem Inv.off (C : Ctx P X call ops σ F v al lo re oks bs) (he0 : EnvOk ρ0 (F 0) (σ 0).l (σ 0).tm a0.tmps) (I : Inv P ops σ F v al lo bs ρ0 a0 w0 S a w ρ p) (ho : ops[i]? = some o) (hS : ¬ S i) (hb : ∀ j, (bsOf bs i).testBit j = true → S j)
    (hl : lo i = true) (ha : al i = none) (hh : (σ (i + 1)).hp = (σ i).hp) {x : Value} (hx : den ρ (v i) = some x) : Inv P ops σ F v al lo bs ρ0 a0 w0 (Add S i) (a.put o.dst x) w ρ (i + 1) := by
  have hi : i < ops.size := (Array.getElem?_eq_some_iff.1 ho).1
  obtain ⟨g1, g2, g3, g4⟩ := I.put C he0 ho (Rho.le_refl ρ) hx
  obtain ⟨hp, hgap⟩ := I.gap C hi hS hb hl
  have hG : Gat ops.size σ al p = Gat ops.size σ al (i + 1) := (C.G_eq hp (by omega) hgap).trans (Gat_same hi ha hh)
  refine ⟨add_closed I hb, add_lt I hi, by omega, fun b h1 h2 => ?_, (hs_mono C (i := i + 1) (by omega) (Nat.le_refl _)).1 _ ((C.did i o ho).lh hl), g1, g2, g3, g4, by rw [← hG]; exact I.mem, by rw [← hG]; exact I.step, fun j y h1 h2 h3 => ?_, fun b h1 hN h2 => ?_, ?_, fun j y h1 h2 h3 => ?_⟩
  · constructor
    · rintro (h | rfl)
      · have := (I.ld b h1 h2).1 h; omega
      · omega
    · intro h
      by_cases e : b = i
      · exact .inr e
      · exact .inl (hb b (C.tot b i h1 hi h2 hl (by omega)))
  · rw [← hG]; exact I.undone j y h1 h2 fun h => h3 (.inl h)
  · rw [hh] at h1
    obtain ⟨j, y, e1, e2, e3, e4, e5⟩ := I.fut b (Nat.le_trans (C.le hp (by omega)) h1) hN h2
    refine ⟨j, y, ?_, e2, e3, .inl e4, e5⟩
    apply Nat.le_of_not_lt
    intro hlt
    by_cases e : j = i
    · subst e; rw [ha] at e3; cases e3
    · have := C.al_lt e2 e3 (k := i) (by omega) (by omega)
      rw [← e5] at this; omega
  · rw [hh]; exact C.wf_eq I.wf hp (by omega) hgap
  · rcases h3 with h3 | rfl
    · exact I.plain j y h1 h2 h3
    · rw [ha] at h2; cases h2
/-- An object made. -/
theorem Inv.made (C : Ctx P X call ops σ F v al lo re oks bs) (he0 : EnvOk ρ0 (F 0) (σ 0).l (σ 0).tm a0.tmps) (I : Inv P ops σ F v al lo bs ρ0 a0 w0 S a w ρ p) (ho : ops[i]? = some o) (hS : ¬ S i) (hb : ∀ j, (bsOf bs i).testBit j = true → S j)
    {y : Id × AO} (ha : al i = some y) (hro : y.2.ro = false) (cap : Nat) (O : Obj) (hob : ObjOk (ρ.upd y.1 ⟨w.heap.size, 0, cap⟩) ⟨w.heap.size, 0, cap⟩ (w.alloc O) y.2) {x : Value} (hx : den (ρ.upd y.1 ⟨w.heap.size, 0, cap⟩) (v i) = some x) :
    Inv P ops σ F v al lo bs ρ0 a0 w0 (Add S i) (a.put o.dst x) (w.alloc O) (ρ.upd y.1 ⟨w.heap.size, 0, cap⟩) p := by
  have hi : i < ops.size := (Array.getElem?_eq_some_iff.1 ho).1
  obtain ⟨hu1, hu2⟩ := I.undone i y hi ha hS
  obtain ⟨hn1, hn2, hq⟩ := C.al_at hi ha
  have hle := Rho.le_upd ρ ⟨w.heap.size, 0, cap⟩ hu1
  obtain ⟨g1, g2, g3, g4⟩ := I.put C he0 ho hle hx
  have hrange : num (σ 0).hp.nx ≤ num y.1 ∧ num y.1 < num (Gat ops.size σ al p).nx := ⟨C.al_ge hi ha (Nat.zero_le _), C.al_lt hi ha hi (Nat.le_refl _)⟩
  refine ⟨add_closed I hb, add_lt I hi, I.pn, fun b h1 h2 => ?_, I.hp, g1, g2, g3, g4, I.mem.late hu2 hu1 cap O hob, I.step.late hu1 hrange cap O, fun j z h1 h2 h3 => ?_, fun b h1 hN h2 => ?_, I.wf, fun j z h1 h2 h3 => ?_⟩
  · rw [← I.ld b h1 h2]
    constructor
    · rintro (h | rfl)
      · exact h
      · rw [hq] at h2; cases h2
    · exact .inl
  · have hji : j ≠ i := fun e => h3 (.inr e)
    obtain ⟨e1, e2⟩ := I.undone j z h1 h2 fun h => h3 (.inl h)
    exact ⟨by rw [Rho.upd_other ρ _ (C.al_ne h1 hi h2 ha hji)]; exact e1, e2⟩
  · by_cases e : b = y.1
    · refine ⟨i, y, ?_, hi, ha, .inr rfl, e⟩
      apply Nat.le_of_not_lt
      intro hlt
      have := C.al_lt hi ha hlt I.pn
      rw [← e] at this; omega
    · rw [Rho.upd_other ρ _ e] at h2
      obtain ⟨j, z, e1, e2, e3, e4, e5⟩ := I.fut b h1 hN h2
      exact ⟨j, z, e1, e2, e3, .inl e4, e5⟩
  · rcases h3 with h3 | rfl
    · exact I.plain j z h1 h2 h3
    · rw [ha] at h2; cases h2; exact hro
/-- A loud operation. -/
theorem Inv.loud_mem (C : Ctx P X call ops σ F v al lo re oks bs) (I : Inv P ops σ F v al lo bs ρ0 a0 w0 S a w ρ p) (hi : i < ops.size) (hS : ¬ S i) (hb : ∀ j, (bsOf bs i).testBit j = true → S j) (hl : lo i = true) (ha : al i = none) :
    Mem P ρ (σ i).hp w ∧ Free ρ (σ i).hp (σ (i + 1)).hp := by
  obtain ⟨hp, hgap⟩ := I.gap C hi hS hb hl
  have hG := C.G_eq hp (by omega) hgap
  have hwf := C.wf_eq I.wf hp (by omega) hgap
  refine ⟨I.mem.sub (fun b ob hbo => by rw [hG, C.G_old (by omega) (hwf b ob hbo)]; exact hbo) hwf, fun b h1 h2 => ?_⟩
  cases hr : ρ b with
  | none => rfl
  | some l =>
    obtain ⟨j, y, e1, e2, e3, e4, e5⟩ := I.fut b (Nat.le_trans (C.le hp (by omega)) h1) (Nat.lt_of_lt_of_le h2 (C.le (by omega) (Nat.le_refl _))) (by simp [hr])
    have hj : j ≠ i := fun e => by subst e; rw [ha] at e3; cases e3
    rcases Nat.lt_or_gt_of_ne hj with h | h
    · have := C.al_lt e2 e3 h (by omega); rw [← e5] at this; omega
    · have := C.al_ge e2 e3 (k := i + 1) (by omega); rw [← e5] at this; omega
theorem Inv.loud (C : Ctx P X call ops σ F v al lo re oks bs) (he0 : EnvOk ρ0 (F 0) (σ 0).l (σ 0).tm a0.tmps) (I : Inv P ops σ F v al lo bs ρ0 a0 w0 S a w ρ p) (ho : ops[i]? = some o) (hS : ¬ S i) (hb : ∀ j, (bsOf bs i).testBit j = true → S j)
    (hl : lo i = true) (ha : al i = none) {ρ' : Rho} {w' : World} (hs : Step ρ (σ i).hp w ρ' (σ (i + 1)).hp w') (hm : Mem P ρ' (σ (i + 1)).hp w') {x : Value} (hx : den ρ' (v i) = some x) :
    Inv P ops σ F v al lo bs ρ0 a0 w0 (Add S i) (a.put o.dst x) w' ρ' (i + 1) := by
  have hi : i < ops.size := (Array.getElem?_eq_some_iff.1 ho).1
  obtain ⟨g1, g2, g3, g4⟩ := I.put C he0 ho hs.ext hx
  obtain ⟨hp, hgap⟩ := I.gap C hi hS hb hl
  have hG := C.G_eq hp (by omega) hgap
  have hwf := C.wf_eq I.wf hp (by omega) hgap
  have hmG : Mem P ρ (Gat ops.size σ al i) w := by rw [← hG]; exact I.mem
  have hsG : Step ρ0 (σ 0).hp w0 ρ (Gat ops.size σ al i) w := by rw [← hG]; exact I.step
  have old : ∀ b ob, Q.get b (σ i).hp.tr = some ob → Q.get b (Gat ops.size σ al i).tr = some ob := fun b ob hbo => by rw [C.G_old (by omega) (hwf b ob hbo)]; exact hbo
  -- objects still to come, that are there already
  have early : ∀ j y, i + 1 ≤ j → j < ops.size → al j = some y → ρ' y.1 = ρ y.1 := by
    intro j y h1 h2 h3
    cases hr : ρ y.1 with
    | some l => exact hs.ext _ _ hr
    | none =>
      cases hr' : ρ' y.1 with
      | none => rfl
      | some l =>
        rcases hs.dom y.1 (by simp [hr']) with h | h
        · exact absurd hr h
        · have := C.al_ge h2 h3 (k := i + 1) h1; omega
  have inI : ∀ j y, i + 1 ≤ j → j < ops.size → al j = some y → Q.get y.1 (Gat ops.size σ al i).tr = some y.2 := fun j y h1 h2 h3 => C.G_al (by omega) h2 h3
  have notI : ∀ j y, i + 1 ≤ j → j < ops.size → al j = some y → Q.get y.1 (σ i).hp.tr = none := by
    intro j y h1 h2 h3
    cases hq : Q.get y.1 (σ i).hp.tr with
    | none => rfl
    | some ob =>
      have a1 := hwf y.1 ob hq
      have a2 := C.al_ge h2 h3 (k := i) (by omega)
      omega
  have wrI : ∀ cb, Wr ρ (σ i).hp cb → Wr ρ (Gat ops.size σ al i) cb := fun cb ⟨b, ob, l, h1, h2, h3, h4⟩ => ⟨b, ob, l, old b ob h1, h2, h3, h4⟩
  have there : ∀ j y l, i + 1 ≤ j → j < ops.size → al j = some y → ρ y.1 = some l → y.2.ro = false ∧ l.cb < w.heap.size ∧ ¬ Own ρ (σ i).hp l.cb := by
    intro j y l h1 h2 h3 h4
    have hSj : S j := Classical.byContradiction fun h => by rw [(I.undone j y h2 h3 h).1] at h4; cases h4
    refine ⟨I.plain j y h2 h3 hSj, (hmG.obj y.1 y.2 l (inI j y h1 h2 h3) h4).lt, ?_⟩
    intro ⟨b, ob, l', g1, g3, g4⟩
    have hne : b ≠ y.1 := fun e => by rw [e, notI j y h1 h2 h3] at g1; cases g1
    rcases hmG.apart b y.1 ob y.2 l' l (old b ob g1) (inI j y h1 h2 h3) g3 h4 hne with h | h
    · exact h g4
    · rw [I.plain j y h2 h3 hSj] at h; cases h.2.1
  have wrOwn : ∀ cb, Wr ρ (σ i).hp cb → Own ρ (σ i).hp cb := fun cb ⟨b, ob, l, h1, _, h3, h4⟩ => ⟨b, ob, l, h1, h3, h4⟩
  have far : ∀ j y l b ob l', i + 1 ≤ j → j < ops.size → al j = some y → ρ y.1 = some l → Q.get b (σ (i + 1)).hp.tr = some ob → ρ' b = some l' → l'.cb ≠ l.cb := by
    intro j y l b ob l' h1 h2 h3 h4 h5 h6 e
    obtain ⟨t1, t2, t3⟩ := there j y l h1 h2 h3 h4
    rcases hs.own l'.cb ⟨b, ob, l', h5, h6, rfl⟩ with h | h
    · rw [e] at h; exact t3 h
    · omega
  refine ⟨add_closed I hb, add_lt I hi, by omega, fun b h1 h2 => ?_, (hs_mono C (i := i + 1) (by omega) (Nat.le_refl _)).1 _ ((C.did i o ho).lh hl), g1, g2, g3, g4, ?_, ?_, fun j y h1 h2 h3 => ?_, fun b h1 hN h2 => ?_, hm.wf, fun j y h1 h2 h3 => ?_⟩
  · constructor
    · rintro (h | rfl)
      · have := (I.ld b h1 h2).1 h; omega
      · omega
    · intro h
      by_cases e : b = i
      · exact .inr e
      · exact .inl (hb b (C.tot b i h1 hi h2 hl (by omega)))
  · refine ⟨fun b ob l h1 h2 => ?_, fun b b' ob ob' l l' h1 h2 h3 h4 h5 => ?_, hm.glob, fun b ob h1 => ?_⟩
    · rcases C.G_inv (p := i + 1) (by omega) h1 with ⟨j, y, e1, e2, e3, rfl, rfl⟩ | ⟨_, e1⟩
      · rw [early j y e1 e2 e3] at h2
        obtain ⟨t1, t2, t3⟩ := there j y l e1 e2 e3 h2
        exact ObjOk.mono hs.ext (hs.frame l.cb t2 fun h => t3 (wrOwn _ h)) (hmG.obj y.1 y.2 l (inI j y e1 e2 e3) h2)
      · exact hm.obj b ob l e1 h2
    · rcases C.G_inv (p := i + 1) (by omega) h1 with ⟨j, y, e1, e2, e3, rfl, rfl⟩ | ⟨_, e1⟩ <;> rcases C.G_inv (p := i + 1) (by omega) h2 with ⟨j', y', f1, f2, f3, rfl, rfl⟩ | ⟨_, f1⟩
      · rw [early j y e1 e2 e3] at h3
        rw [early j' y' f1 f2 f3] at h4
        exact hmG.apart y.1 y'.1 y.2 y'.2 l l' (inI j y e1 e2 e3) (inI j' y' f1 f2 f3) h3 h4 h5
      · rw [early j y e1 e2 e3] at h3
        exact .inl fun e => far j y l b' ob' l' e1 e2 e3 h3 f1 h4 e.symm
      · rw [early j' y' f1 f2 f3] at h4
        exact .inl (far j' y' l' b ob l f1 f2 f3 h4 e1 h3)
      · exact hm.apart b b' ob ob' l l' e1 f1 h3 h4 h5
    · rcases C.G_inv (p := i + 1) (by omega) h1 with ⟨j, y, e1, e2, e3, rfl, rfl⟩ | ⟨_, e1⟩
      · exact C.al_lt e2 e3 (k := ops.size) e2 (Nat.le_refl _)
      · exact Nat.lt_of_lt_of_le (hm.wf b ob e1) (C.le (by omega) (Nat.le_refl _))
  · have ownG : ∀ cb, Own ρ (σ i).hp cb → Own ρ (Gat ops.size σ al i) cb := fun cb ⟨b, ob, l, h1, h3, h4⟩ => ⟨b, ob, l, old b ob h1, h3, h4⟩
    refine ⟨Rho.le_trans hsG.ext hs.ext, fun b hb' => ?_, C.le (Nat.zero_le _) (Nat.le_refl _), hs.os.trans hsG.os, hs.tape.trans hsG.tape, hs.output.trans hsG.output, Nat.le_trans hsG.size hs.size, fun cb hcb hw => ?_, fun cb hcb => ?_, fun cb hcb => ?_, fun b hb' hn => ?_⟩
    · rcases hs.dom b hb' with h | h
      · exact hsG.dom b h
      · exact .inr ⟨Nat.le_trans (C.le (Nat.zero_le i) (by omega)) h.1, Nat.lt_of_lt_of_le h.2 (C.le (by omega) (Nat.le_refl _))⟩
    · rw [hs.frame cb (Nat.lt_of_lt_of_le hcb hsG.size) fun h => ?_, hsG.frame cb hcb hw]
      rcases hsG.wr cb (wrI cb h) with h1 | h1
      · exact hw h1
      · omega
    · obtain ⟨b, ob, l, h1, h2, h3, rfl⟩ := hcb
      rcases C.G_inv (p := i + 1) (by omega) h1 with ⟨j, y, e1, e2, e3, rfl, rfl⟩ | ⟨_, e1⟩
      · rw [early j y e1 e2 e3] at h3
        exact hsG.wr _ ⟨y.1, y.2, l, inI j y e1 e2 e3, h2, h3, rfl⟩
      · rcases hs.wr l.cb ⟨b, ob, l, e1, h2, h3, rfl⟩ with h | h
        · exact hsG.wr _ (wrI _ h)
        · exact .inr (Nat.le_trans hsG.size h)
    · obtain ⟨b, ob, l, h1, h3, rfl⟩ := hcb
      rcases C.G_inv (p := i + 1) (by omega) h1 with ⟨j, y, e1, e2, e3, rfl, rfl⟩ | ⟨_, e1⟩
      · rw [early j y e1 e2 e3] at h3
        exact hsG.own _ ⟨y.1, y.2, l, inI j y e1 e2 e3, h3, rfl⟩
      · rcases hs.own l.cb ⟨b, ob, l, e1, h3, rfl⟩ with h | h
        · exact hsG.own _ (ownG _ h)
        · exact .inr (Nat.le_trans hsG.size h)
    · have hno : ∀ j y, i ≤ j → j < ops.size → al j = some y → y.1 ≠ b := fun j y h1 h2 h3 e => hn (by
        rw [← e]
        exact ⟨C.al_ge h2 h3 (Nat.zero_le _), C.al_lt h2 h3 (k := ops.size) h2 (Nat.le_refl _)⟩)
      have k1 : Q.get b (Gat ops.size σ al (i + 1)).tr = Q.get b (σ (i + 1)).hp.tr := addAl_no _ _ _ fun j y h1 h2 h3 => hno j y (by omega) (by omega) h3
      have k2 : Q.get b (Gat ops.size σ al i).tr = Q.get b (σ i).hp.tr := addAl_no _ _ _ fun j y h1 h2 h3 => hno j y h1 (by omega) h3
      have hρ : ρ b = none := by
        cases hr : ρ b with
        | none => rfl
        | some l =>
          rcases hsG.dom b (by simp [hr]) with h | h
          · exact absurd hb' h
          · exact absurd h hn
      rw [k1, hs.keeps b hρ (fun h => hn ⟨Nat.le_trans (C.le (Nat.zero_le i) (by omega)) h.1, Nat.lt_of_lt_of_le h.2 (C.le (by omega) (Nat.le_refl _))⟩), ← k2, hsG.keeps b hb' hn]
  · have hji : j ≠ i := fun e => by subst e; rw [ha] at h2; cases h2
    obtain ⟨e1, e2⟩ := I.undone j y h1 h2 fun h => h3 (.inl h)
    rw [hG] at e2
    have hout : ¬ (num (σ i).hp.nx ≤ num y.1 ∧ num y.1 < num (σ (i + 1)).hp.nx) := by
      rcases Nat.lt_or_gt_of_ne hji with h | h
      · have := C.al_lt h1 h2 h (by omega); omega
      · have := C.al_ge h1 h2 (k := i + 1) (by omega); omega
    refine ⟨?_, ?_⟩
    · cases hr' : ρ' y.1 with
      | none => rfl
      | some l =>
        rcases hs.dom y.1 (by simp [hr']) with h | h
        · exact absurd e1 h
        · exact absurd h hout
    · by_cases hlt : j < i
      · have b1 := C.al_lt h1 h2 hlt (by omega)
        have b2 := C.al_lt h1 h2 (k := i + 1) (by omega) (by omega)
        rw [C.G_old (by omega) b2, hs.keeps y.1 e1 hout, ← C.G_old (by omega) b1]
        exact e2
      · exact C.G_al (by omega) h1 h2
  · have hρ : ρ b ≠ none := by
      rcases hs.dom b h2 with h | h
      · exact h
      · omega
    obtain ⟨j, y, e1, e2, e3, e4, e5⟩ := I.fut b (Nat.le_trans (Nat.le_trans (C.le hp (by omega)) (C.mono i hi)) h1) hN hρ
    refine ⟨j, y, ?_, e2, e3, .inl e4, e5⟩
    apply Nat.le_of_not_lt
    intro hlt
    have := C.al_lt e2 e3 hlt (by omega)
    rw [← e5] at this; omega
  · rcases h3 with h3 | rfl
    · exact I.plain j y h1 h2 h3
    · rw [ha] at h2; cases h2
end
end Go.AX
/- The abstract executor: regions that draw their order: the whole. -/
namespace Go.AX
section
variable {P : Program} {X : Ext} {call : CallH} {ops : Array Oper} {σ : Nat → DSt} {F : Nat → CE} {v : Nat → AV} {al : Nat → Option (Id × AO)} {lo re : Nat → Bool} {oks : Nat → List Nat} {bs : List Nat}
  {ρ0 : Rho} {a0 : Act} {w0 : World} {S : Nat → Prop} {a : Act} {w : World} {ρ : Rho} {p : Nat} {i : Nat} {o : Oper}
theorem Inv.one (hc : CallOk P X call) (C : Ctx P X call ops σ F v al lo re oks bs) (he0 : EnvOk ρ0 (F 0) (σ 0).l (σ 0).tm a0.tmps) (I : Inv P ops σ F v al lo bs ρ0 a0 w0 S a w ρ p) (hi : i < ops.size) (hS : ¬ S i) (hb : ∀ j, (bsOf bs i).testBit j = true → S j)
    {K : Act → World → Prop} {Qx : Exit → Act → World → Prop} (hK : ∀ a' w' ρ' p', Inv P ops σ F v al lo bs ρ0 a0 w0 (Add S i) a' w' ρ' p' → K a' w') : wpOp P ops Qx i K a w := by
  obtain ⟨o, ho⟩ := getOp hi
  unfold wpOp
  rw [ho]
  simp only
  have hop := I.opds C he0 ho hS hb
  have still : ∀ {x : Value}, al i = none → (σ (i + 1)).hp = (σ i).hp → den ρ (v i) = some x → K (a.put o.dst x) w := by
    intro x ha hh hx
    cases hl : lo i with
    | true => exact hK _ _ _ _ (I.off C he0 ho hS hb hl ha hh hx)
    | false => exact hK _ _ _ _ (I.quiet C he0 ho hb hl ha hx)
  rcases (C.did i o ho).how with ⟨h1, h2, h3, h4⟩ | ⟨h1, h2, h3, f, h4, h5⟩ | ⟨h1, h2, h3, h4, f, h5, h6⟩ | ⟨h1, h2, f, ob, h3, h4, h5, h6⟩ | ⟨h1, h2, h3, f, h4, h5⟩
  · rw [I.wanted C he0 ho hS hb h2, if_neg (by simp)]
    exact still h1 h4 (by rw [h3]; exact den_undef ρ)
  · rw [I.wanted C he0 ho hS hb h2, if_pos rfl]
    obtain ⟨x, g1, g2⟩ := h4 ρ (σ i).l (σ i).tm a.eval w (v i) hop h5
    refine .inl ?_
    show Oper.upon P o a K Qx _
    rw [g2, Oper.upon_value]
    exact still h1 h3 g1
  · rw [I.wanted C he0 ho hS hb h2, if_pos rfl]
    have hok : p ∈ oks i := C.ok i p hi h4 I.pn fun b hbn hbl => ⟨fun h => (I.ld b hbn hbl).1 (hb b h), fun h hlt => hS (I.closed b i ((I.ld b hbn hbl).2 hlt) h)⟩
    have hm := (hs_mono C (i := i + 1) (j := ops.size) (by omega) (Nat.le_refl _)).2 _ h6
    obtain ⟨u, g1, g2⟩ := agree_mem C.ag hm I.hp hok
    have := avSame_eq g2
    simp only at this g1
    rw [← this] at g1
    have hmem : Mem P ρ (σ p).hp w := I.mem.sub (fun b ob hbo => by rw [C.G_old I.pn (I.wf b ob hbo)]; exact hbo) I.wf
    obtain ⟨x, e1, e2⟩ := h5 ρ (σ i).l (σ i).tm (σ p).hp a.eval w (v i) hmem hop g1
    refine .inl ?_
    show Oper.upon P o a K Qx _
    rw [e2, Oper.upon_value]
    exact still h1 h3 e1
  · rw [I.wanted C he0 ho hS hb h1, if_pos rfl]
    obtain ⟨e1, _⟩ := I.undone i _ hi h6 hS
    obtain ⟨x, O, cap, g1, g2, g3, g4⟩ := h3 ρ (σ i).l (σ i).tm (σ i).hp.nx a.eval w (v i) ob hop e1 h4
    refine .inl ?_
    show Oper.upon P o a K Qx _
    rw [g1, Oper.upon_value]
    exact hK _ _ _ _ (I.made C he0 ho hS hb h6 g2 cap O g4 g3)
  · rw [I.wanted C he0 ho hS hb h2, if_pos rfl]
    obtain ⟨e1, e2⟩ := I.loud_mem C hi hS hb h3 h1
    exact .inl (h4 call hc ρ (σ i).l (σ i).tm (σ i).hp w a (v i) (σ (i + 1)).hp e1 e2 hop h5 K Qx fun ρ' w' x hs hm hx => hK _ _ _ _ (I.loud C he0 ho hS hb h3 h1 hs hm hx))
/-- What is listed. -/
def Lst (listed : Array Bool) : Nat → Prop := fun j => listed[j]? = some true
theorem ready_mem {listed : Array Bool} {i : Nat} (_hs : listed.size = ops.size) (h : i ∈ Region.ready .any ops listed) : ∃ o, ops[i]? = some o ∧ ¬ Lst listed i ∧ ∀ e ∈ o.after.toList, Region.binds .any e = true → Lst listed e.on := by
  unfold Region.ready at h
  rw [List.mem_filter] at h
  obtain ⟨h1, h2⟩ := h
  have hi : i < ops.size := by simpa using h1
  obtain ⟨o, ho⟩ := getOp hi
  rw [Bool.and_eq_true, ho] at h2
  refine ⟨o, ho, fun hl => ?_, fun e he hb => ?_⟩
  · have h3 := h2.1
    unfold Lst at hl
    rw [Array.getD_eq_getD_getElem?, hl] at h3
    cases h3
  · have h3 : (o.after.all fun e => !Region.binds .any e || listed.getD e.on false) = true := h2.2
    rw [Array.all_eq_true'] at h3
    have h4 := h3 e (Array.mem_toList_iff.1 he)
    rw [hb] at h4
    have h5 : listed.getD e.on false = true := h4
    rw [Array.getD_eq_getD_getElem?] at h5
    unfold Lst
    cases hq : listed[e.on]? with
    | none => rw [hq] at h5; cases h5
    | some b => rw [hq] at h5; exact congrArg some h5
theorem ready_nil (hord : OrdOk ops bs) {listed : Array Bool} (hs : listed.size = ops.size) (h : Region.ready .any ops listed = []) : ∀ i, i < ops.size → Lst listed i := by
  intro i
  induction i using Nat.strongRecOn with
  | ind i ih =>
    intro hi
    apply Classical.byContradiction
    intro hn
    obtain ⟨o, ho⟩ := getOp hi
    have hmem : i ∈ Region.ready .any ops listed := by
      unfold Region.ready
      rw [List.mem_filter]
      refine ⟨by simpa using hi, ?_⟩
      rw [Bool.and_eq_true, ho]
      refine ⟨?_, ?_⟩
      · have hlt : i < listed.size := by omega
        have : listed[i] ≠ true := fun e => hn (by unfold Lst; rw [Array.getElem?_eq_getElem hlt, e])
        rw [Array.getD_eq_getD_getElem?, Array.getElem?_eq_getElem hlt]
        simpa using this
      · show (o.after.all fun e => !Region.binds .any e || listed.getD e.on false) = true
        rw [Array.all_eq_true']
        intro e he
        cases hb : Region.binds .any e with
        | false => rfl
        | true =>
          have hlt := hord.lt i o e ho (Array.mem_toList_iff.2 he) hb
          have := ih e.on hlt (by omega)
          unfold Lst at this
          rw [Array.getD_eq_getD_getElem?, this]
          rfl
    rw [h] at hmem
    cases hmem
theorem any_ok (hc : CallOk P X call) (C : Ctx P X call ops σ F v al lo re oks bs) (he0 : EnvOk ρ0 (F 0) (σ 0).l (σ 0).tm a0.tmps) {Qx : Exit → Act → World → Prop} (hQ : ∀ a w ρ p, Inv P ops σ F v al lo bs ρ0 a0 w0 (fun j => j < ops.size) a w ρ p → Qx .normal a w) :
    ∀ (fuel : Nat) (listed : Array Bool) (a : Act) (w : World) (ρ : Rho) (p : Nat), listed.size = ops.size → listed.toList.countP (· == false) ≤ fuel → Inv P ops σ F v al lo bs ρ0 a0 w0 (Lst listed) a w ρ p → wpAny P .any ops Qx fuel listed a w := by
  have fin : ∀ (listed : Array Bool) (a : Act) (w : World) (ρ : Rho) (p : Nat), listed.size = ops.size → Region.ready .any ops listed = [] → Inv P ops σ F v al lo bs ρ0 a0 w0 (Lst listed) a w ρ p → Qx .normal a w := by
    intro listed a w ρ p hs hr I
    have hall := ready_nil C.ord hs hr
    have : Lst listed = fun j => j < ops.size := funext fun j => propext ⟨fun h => I.lt j h, hall j⟩
    rw [this] at I
    exact hQ a w ρ p I
  intro fuel
  induction fuel with
  | zero =>
    intro listed a w ρ p hs hcnt I
    have hr : Region.ready .any ops listed = [] := by
      rw [List.eq_nil_iff_forall_not_mem]
      intro i hi
      obtain ⟨o, ho, hn, _⟩ := ready_mem hs hi
      have hlt : i < listed.size := by rw [hs]; exact (Array.getElem?_eq_some_iff.1 ho).1
      have hf : listed[i] = false := by
        cases hq : listed[i] with
        | false => rfl
        | true => exact absurd (by unfold Lst; rw [Array.getElem?_eq_getElem hlt, hq]) hn
      have : 0 < listed.toList.countP (· == false) := List.countP_pos_iff.2 ⟨listed[i], by simp, by simp [hf]⟩
      omega
    exact ⟨hr, fin listed a w ρ p hs hr I⟩
  | succ fuel ih =>
    intro listed a w ρ p hs hcnt I
    refine ⟨fun hr => fin listed a w ρ p hs hr I, fun i hi => ?_⟩
    obtain ⟨o, ho, hn, hedge⟩ := ready_mem hs hi
    have hio : i < ops.size := (Array.getElem?_eq_some_iff.1 ho).1
    have hlt : i < listed.size := by rw [hs]; exact hio
    have hb : ∀ j, (bsOf bs i).testBit j = true → Lst listed j := by
      intro j hj
      obtain ⟨e, he, hbd, hh⟩ := (C.ord.bit i o j ho).1 hj
      rcases hh with rfl | hh
      · exact hedge e he hbd
      · exact I.closed e.on j (hedge e he hbd) hh
    refine I.one hc C he0 hio hn hb fun a' w' ρ' p' I' => ?_
    refine ih _ a' w' ρ' p' (by simpa using hs) ?_ ?_
    · have hf : listed[i] = false := by
        cases hq : listed[i] with
        | false => rfl
        | true => exact absurd (by unfold Lst; rw [Array.getElem?_eq_getElem hlt, hq]) hn
      have hpos : 0 < listed.toList.countP (· == false) := List.countP_pos_iff.2 ⟨listed[i], by simp, by simp [hf]⟩
      rw [Array.toList_setIfInBounds, List.countP_set (by simpa using hlt)]
      have h1 : (listed.toList[i]'(by simpa using hlt) == false) = true := by simp [hf]
      rw [if_pos h1, if_neg (by simp)]
      omega
    · have : Lst (listed.setIfInBounds i true) = Add (Lst listed) i := by
        funext j
        apply propext
        unfold Lst Add
        rw [Array.getElem?_setIfInBounds]
        by_cases e : i = j
        · subst e; simp [hlt]
        · rw [if_neg e]
          constructor
          · exact .inl
          · rintro (h | h)
            · exact h
            · exact absurd h.symm e
      rw [this]; exact I'
theorem draw_ok (hc : CallOk P X call) : DrawOk P call := by
  intro id ops E E' ac hreg hP ρ s a w s' Qx st hr hf hq
  obtain ⟨⟨as, E1⟩, h1, h2⟩ := bind_eq.1 hreg
  rw [bsel_eq, if_pos rfl] at h2
  obtain ⟨h3, h4⟩ := tst_eq.1 h2
  cases h4
  rw [band_eq, Bool.and_eq_true, hP] at h3
  obtain ⟨hmix, hdo⟩ := h3
  obtain ⟨hlen0, F, hF0, hFn, hF⟩ := opers_trace ops.toList E _ as h1
  have hlen : as.length = ops.size := by rw [hlen0]; exact Array.length_toList
  rw [Array.length_toList] at hFn
  have hr : R.rec (motive := fun _ => CR) (fun t : DSt => CR.norm ⟨t.l, t.tm, t.hp, s.df⟩) CR.err (runD call (drawOpers (befs ops.toList []) (loudsOf as 0) (len as) as 0) s.l s.tm s.hp) = .norm s' := hr
  obtain ⟨t, hrun, ht⟩ := rec_norm hr
  cases ht
  obtain ⟨t1, hops, hag⟩ := bind_eq.1 hrun
  obtain ⟨_, hag, ht1⟩ := bind_eq.1 hag
  cases ht1
  obtain ⟨σ, hσ0, hσn, hσ⟩ := opsD_trace _ _ _ hops
  rw [drawOpers_length, hlen] at hσn
  rw [len_eq, hlen] at hσ
  have hord := ordOk hdo
  -- what is where
  have at_ : ∀ (i : Nat) (o : Oper), ops[i]? = some o → ∃ ao, as[i]? = some ao ∧ (F i).oper ops o = .ok (ao, F (i + 1)) ∧ operD call ⟨ao, i, bsel ao.reads ((List.range (ops.size + 1)).filter (oksAt (befs ops.toList []) (loudsOf as 0) i)) []⟩ (σ i) = .ok (σ (i + 1)) := by
    intro i o ho
    obtain ⟨ao, e1, e2⟩ := hF i o (by simpa using ho)
    have e3 := drawOpers_get (befs ops.toList []) (loudsOf as 0) ops.size as 0 i ao e1
    rw [Nat.zero_add] at e3
    exact ⟨ao, e1, e2, hσ i _ e3⟩
  have hprog : ∀ i, i ≤ ops.size → (F i).P = P := by
    intro i
    induction i with
    | zero => intro _; rw [hF0]; exact hP
    | succ i ih =>
      intro hi
      obtain ⟨o, ho⟩ := getOp (ops := ops) (i := i) (by omega)
      obtain ⟨ao, _, e2, _⟩ := at_ i o ho
      exact (oper_prog e2).trans (ih (by omega))
  let lo : Nat → Bool := fun i => ((as[i]?).map AOper.loud).getD false
  let re : Nat → Bool := fun i => ((as[i]?).map AOper.reads).getD false
  let oks : Nat → List Nat := fun i => bsel (re i) ((List.range (ops.size + 1)).filter (oksAt (befs ops.toList []) (loudsOf as 0) i)) []
  have hex : ∀ i : Nat, ∃ x : AV × Option (Id × AO), ∀ o, ops[i]? = some o → Did P X call ops o (F i) (F (i + 1)) (σ i) (σ (i + 1)) i (lo i) (re i) (oks i) x.1 x.2 := by
    intro i
    by_cases hi : i < ops.size
    · obtain ⟨o, ho⟩ := getOp hi
      obtain ⟨ao, e1, e2, e3⟩ := at_ i o ho
      obtain ⟨v, al, d⟩ := did_operD (X := X) (hprog i (by omega)) e2 e3
      refine ⟨(v, al), fun o' ho' => ?_⟩
      rw [ho] at ho'
      cases ho'
      have l1 : lo i = ao.loud := by simp only [lo, e1, Option.map_some, Option.getD_some]
      have l2 : re i = ao.reads := by simp only [re, e1, Option.map_some, Option.getD_some]
      simp only [oks]
      rw [l1, l2]
      exact d
    · exact ⟨(.undef, none), fun o ho => absurd (Array.getElem?_eq_some_iff.1 ho).1 hi⟩
  let v : Nat → AV := fun i => (Classical.choose (hex i)).1
  let al : Nat → Option (Id × AO) := fun i => (Classical.choose (hex i)).2
  have hloud : ∀ b, b < ops.size → (lo b = true ↔ b ∈ loudsOf as 0) := by
    intro b hb
    constructor
    · intro h
      cases hq : as[b]? with
      | none => simp only [lo, hq, Option.map_none, Option.getD_none] at h; cases h
      | some x =>
        simp only [lo, hq, Option.map_some, Option.getD_some] at h
        have := louds_mem as 0 b x hq h
        rw [Nat.zero_add] at this; exact this
    · intro h
      obtain ⟨k, x, e1, e2, e3⟩ := louds_of as 0 b h
      rw [Nat.zero_add] at e1
      subst e1
      simp only [lo, e2, Option.map_some, Option.getD_some]; exact e3
  unfold drawOk at hdo
  rw [band_eq, band_eq, Bool.and_eq_true, Bool.and_eq_true, decide_eq_true_eq] at hdo
  obtain ⟨hd1, hd2, hd3⟩ := hdo
  have C : Ctx P X call ops σ F v al lo re oks (befs ops.toList []) := by
    refine ⟨fun i o ho => Classical.choose_spec (hex i) o ho, hprog, hord, fun i o tt ho htt j x hx hxd => ?_, fun i j x y tt hx hy hxd hyd => ?_, fun b c hb hcc hlb hlc hlt => ?_, fun i q hi hre hq' hall => ?_, by rw [hσn]; exact hag, by rw [hσ0]; exact List.mem_cons_self, fun i hi => ?_⟩
    · have g1 := List.all_eq_true.1 hd1 (o, i) (by rw [List.mem_zipIdx_iff_getElem?]; simpa using ho)
      simp only [band_eq, Bool.and_eq_true] at g1
      have g2 := List.all_eq_true.1 g1.2 tt htt
      have g3 := List.all_eq_true.1 g2 (x, j) (by rw [List.mem_zipIdx_iff_getElem?]; simpa using hx)
      simp only [hxd, bor_eq, bnot_eq, Bool.or_eq_true] at g3
      rcases g3 with g3 | g3
      · have e : Nat.beq tt tt = true := by simp
        rw [e] at g3; cases g3
      · exact g3
    · have gen : ∀ (l : List Oper) (i j : Nat) (x y : Oper), (l.filterMap (·.dst)).Nodup → l[i]? = some x → l[j]? = some y → x.dst = some tt → y.dst = some tt → i = j := by
        intro l
        induction l with
        | nil => intro i j x y _ h; simp at h
        | cons z l ih =>
          intro i j x y hn hx hy hxd hyd
          have hmem : ∀ (k : Nat) (u : Oper), l[k]? = some u → u.dst = some tt → tt ∈ l.filterMap (·.dst) := fun k u hu hud => List.mem_filterMap.2 ⟨u, List.mem_of_getElem? hu, hud⟩
          have htail : (l.filterMap (·.dst)).Nodup := by
            cases hz : z.dst with
            | none => rw [List.filterMap_cons_none hz] at hn; exact hn
            | some d => rw [List.filterMap_cons_some hz] at hn; exact (List.nodup_cons.1 hn).2
          cases i with
          | zero =>
            simp at hx; subst hx
            rw [List.filterMap_cons_some hxd] at hn
            cases j with
            | zero => rfl
            | succ j => exact absurd (hmem j y (by simpa using hy) hyd) (List.nodup_cons.1 hn).1
          | succ i =>
            cases j with
            | zero =>
              simp at hy; subst hy
              rw [List.filterMap_cons_some hyd] at hn
              exact absurd (hmem i x (by simpa using hx) hxd) (List.nodup_cons.1 hn).1
            | succ j => rw [ih i j x y htail (by simpa using hx) (by simpa using hy) hxd hyd]
      exact gen ops.toList i j x y hd2 (by simpa using hx) (by simpa using hy) hxd hyd
    · have g1 := List.all_eq_true.1 (List.all_eq_true.1 hd3 b ((hloud b hb).1 hlb)) c ((hloud c hcc).1 hlc)
      rw [bor_eq, bnot_eq, Bool.or_eq_true] at g1
      rcases g1 with g1 | g1
      · have e : Nat.blt b c = true := by rw [natBlt_eq]; exact hlt
        rw [e] at g1; cases g1
      · exact g1
    · simp only [oks, hre]
      rw [bsel_eq, if_pos rfl, List.mem_filter]
      refine ⟨by simp; omega, ?_⟩
      unfold oksAt
      rw [List.all_eq_true]
      intro b hb
      obtain ⟨k, x, e1, e2, e3⟩ := louds_of as 0 b hb
      rw [Nat.zero_add] at e1
      subst e1
      have hbn : b < ops.size := by have := (List.getElem?_eq_some_iff.1 e2).1; omega
      obtain ⟨g1, g2⟩ := hall b hbn ((hloud b hbn).2 hb)
      rw [band_eq, bor_eq, bor_eq, bnot_eq, bnot_eq, bnot_eq, Bool.and_eq_true, Bool.or_eq_true, Bool.or_eq_true, natBlt_eq, Bool.not_eq_true', Bool.not_eq_true', Bool.not_eq_true']
      refine ⟨?_, ?_⟩
      · cases hq2 : (bsOf (befs ops.toList []) i).testBit b with
        | false => exact .inl rfl
        | true => exact .inr (g1 hq2)
      · cases hq2 : (bsOf (befs ops.toList []) b).testBit i with
        | false => exact .inl rfl
        | true =>
          refine .inr ?_
          have := g2 hq2
          rw [natBlt_dec]; simpa using this
    · obtain ⟨o, ho⟩ := getOp hi
      obtain ⟨ao, _, e2, e3⟩ := at_ i o ho
      exact operD_mono (oper_mono hc.mono e2) e3
  have hs0 : (σ 0).hp = s.hp ∧ (σ 0).l = s.l ∧ (σ 0).tm = s.tm := by rw [hσ0]; exact ⟨rfl, rfl, rfl⟩
  have he0 : EnvOk ρ (F 0) (σ 0).l (σ 0).tm a.tmps := by rw [hF0, hs0.2.1, hs0.2.2]; exact st.env
  have hN : (σ ops.size).hp = t.hp := by rw [hσn]
  have hf : Free ρ s.hp t.hp := hf
  let wd : World := { w with drawn := w.drawn + 1 }
  obtain ⟨m1, s1⟩ := st.mem.drawn (w' := wd) ⟨rfl, rfl, rfl, rfl⟩
  have free : ∀ (j : Nat) (y : Id × AO), j < ops.size → al j = some y → ρ y.1 = none := by
    intro j y hj hy
    refine hf y.1 ?_ ?_
    · have := C.al_ge hj hy (Nat.zero_le j)
      rw [hs0.1] at this; exact this
    · have := C.al_lt hj hy (k := ops.size) hj (Nat.le_refl _)
      rw [hN] at this; exact this
  have wf0 : ∀ b o, Q.get b (σ 0).hp.tr = some o → num b < num (σ 0).hp.nx := by rw [hs0.1]; exact m1.wf
  have hGi : ∀ b o, Q.get b (Gat ops.size σ al 0).tr = some o → ρ b = none ∨ Q.get b s.hp.tr = some o := by
    intro b o hb
    rcases C.G_inv (Nat.zero_le _) hb with ⟨j, y, _, e2, e3, rfl, rfl⟩ | ⟨_, e1⟩
    · exact .inl (free j y e2 e3)
    · rw [hs0.1] at e1; exact .inr e1
  have hgo : ∀ b o l, Q.get b (Gat ops.size σ al 0).tr = some o → ρ b = some l → Q.get b s.hp.tr = some o := by
    intro b o l h5 h6
    rcases hGi b o h5 with h7 | h7
    · rw [h7] at h6; cases h6
    · exact h7
  have hmG : Mem P ρ (Gat ops.size σ al 0) wd := by
    refine ⟨fun b o l h5 h6 => m1.obj b o l (hgo b o l h5 h6) h6, fun b b' o o' l l' h5 h6 h7 h8 h9 => m1.apart b b' o o' l l' (hgo b o l h5 h7) (hgo b' o' l' h6 h8) h7 h8 h9, m1.glob, fun b o h5 => ?_⟩
    rcases C.G_inv (Nat.zero_le _) h5 with ⟨j, y, _, e2, e3, rfl, rfl⟩ | ⟨_, e1⟩
    · exact C.al_lt e2 e3 (k := ops.size) e2 (Nat.le_refl _)
    · exact Nat.lt_of_lt_of_le (wf0 b o e1) (C.le (Nat.zero_le _) (Nat.le_refl _))
  have hsG : Step ρ (σ 0).hp wd ρ (Gat ops.size σ al 0) wd := by
    refine ⟨Rho.le_refl _, fun _ h => .inl h, C.le (Nat.zero_le _) (Nat.le_refl _), rfl, rfl, rfl, Nat.le_refl _, fun _ _ _ => rfl, fun cb hcb => ?_, fun cb hcb => ?_, fun b hb hn => ?_⟩
    · obtain ⟨b, o, l, h5, h6, h7, h8⟩ := hcb
      exact .inl ⟨b, o, l, by rw [hs0.1]; exact hgo b o l h5 h7, h6, h7, h8⟩
    · obtain ⟨b, o, l, h5, h7, h8⟩ := hcb
      exact .inl ⟨b, o, l, by rw [hs0.1]; exact hgo b o l h5 h7, h7, h8⟩
    · exact addAl_no _ _ _ fun j y h5 h6 h7 e => hn (by
        rw [← e]
        exact ⟨C.al_ge (by omega) h7 (Nat.zero_le _), C.al_lt (by omega) h7 (k := ops.size) (by omega) (Nat.le_refl _)⟩)
  have hInv : Inv P ops σ F v al lo (befs ops.toList []) ρ a wd (Lst (Array.replicate ops.size false)) a wd ρ 0 := by
    have hno : ∀ j, ¬ Lst (Array.replicate ops.size false) j := by
      intro j hj
      unfold Lst at hj
      rw [Array.getElem?_replicate] at hj
      split at hj <;> cases hj
    refine ⟨fun i j h => absurd h (hno i), fun i h => absurd h (hno i), Nat.zero_le _, fun b _ _ => ⟨fun h => absurd h (hno b), fun h => absurd h (by omega)⟩, (hs_mono C (Nat.zero_le _) (Nat.le_refl _)).1 _ C.h0, he0.size, fun j _ _ h => absurd h (hno j), fun _ _ => rfl, rfl, hmG, hsG, fun j y h5 h6 _ => ⟨free j y h5 h6, C.G_al (Nat.zero_le _) h5 h6⟩, fun b h5 h6 h7 => ?_, wf0, fun j _ _ _ h => absurd h (hno j)⟩
    rw [hs0.1] at h5
    rw [hN] at h6
    exact absurd (hf b h5 h6) h7
  refine wp_region_any hmix (any_ok hc C he0 (fun a' w' ρ' p I => ?_) ops.size _ a wd ρ 0 (by simp) ?_ hInv)
  · have hgap : ∀ j, p ≤ j → j < ops.size → lo j = false := by
      intro j h5 h6
      cases hj : lo j with
      | false => rfl
      | true => have := (I.ld j h6 hj).1 h6; omega
    have hG : Gat ops.size σ al p = (σ ops.size).hp := by
      rw [C.G_eq I.pn (Nat.le_refl _) hgap]
      unfold Gat
      rw [Nat.sub_self]
      rfl
    have hn : ∀ (k t : Nat), (F 0).ns[k]? = some t → (F 0).mask.testBit t = false := by
      intro k t hk
      have hlt := (List.getElem?_eq_some_iff.1 hk).1
      rw [← he0.len] at hlt
      exact (he0.near k t (σ 0).l[k] hk (List.getElem?_eq_getElem hlt)).1
    have src := C.src hn (i := ops.size) (Nat.le_refl _)
    have hstep := I.step
    rw [hG, hs0.1, hN] at hstep
    have hmem := I.mem
    rw [hG, hN] at hmem
    have henv : EnvOk ρ' (F ops.size) (σ ops.size).l (σ ops.size).tm a'.tmps := by
      have fin : ∀ (tt : Nat) (u : AV) (r : Prop), (r → ∃ y, a.tmps[tt]? = some y ∧ den ρ u = some y) → ((∃ j x, j < ops.size ∧ ops[j]? = some x ∧ x.dst = some tt ∧ u = v j) ∨ ((∀ j x, j < ops.size → ops[j]? = some x → x.dst ≠ some tt) ∧ r)) → ∃ y, a'.tmps[tt]? = some y ∧ den ρ' u = some y := by
        intro tt u r hr h
        rcases h with ⟨j, x, e1, e2, e3, rfl⟩ | ⟨e1, e2⟩
        · exact I.done j x tt e1 e2 e3
        · obtain ⟨y, g1, g2⟩ := hr e2
          exact ⟨y, by rw [I.still tt fun j x hj hx => e1 j x hj hx]; exact g1, den_mono I.step.ext g2⟩
      refine ⟨I.size.trans src.nt.symm, fun tt u h5 h6 => ?_, ?_, fun k tt u h5 h6 => ?_⟩
      · rw [src.mask] at h5
        exact fin tt u _ (fun h => he0.slot tt u h5 h) (src.slot tt u h5 h6)
      · obtain ⟨m, n, e1, e2, e3⟩ := src.grows.ex
        rw [e1, e2]; simp [e3, he0.len]
      · obtain ⟨e1, e2⟩ := src.near k tt u h5 h6
        rw [src.mask]
        exact ⟨e1, fin tt u _ (fun ⟨k0, e3, e4⟩ => (he0.near k0 tt u e3 e4).2) e2⟩
    have hgr := src.grows
    rw [hF0, hs0.2.1, hFn, hσn] at hgr
    rw [hFn, hσn] at henv
    refine hq ρ' a' w' (s1.trans hstep) ⟨henv, hmem, ?_⟩ hgr
    rw [I.df]
    exact st.df.mono I.step.ext
  · rw [Array.toList_replicate]
    rw [List.countP_replicate]
    simp
end
end Go.AX
/- The abstract executor: functions. -/
namespace Go.AX

theorem argsTm_get : ∀ (l : List AV) (i : Nat) (t : Q AV) (j : Nat), Q.get (pathOf j) (argsTm l i t) = if i ≤ j ∧ j < i + l.length then l[j - i]? else Q.get (pathOf j) t
  | [], i, t, j => by rw [if_neg (by simp)]; rfl
  | v :: l, i, t, j => by
    show Q.get (pathOf j) (argsTm l (i + 1) (Q.set (pathOf i) (some v) t)) = _
    rw [argsTm_get l (i + 1) _ j]
    by_cases h1 : i + 1 ≤ j ∧ j < i + 1 + l.length
    · rw [if_pos h1, if_pos (by simp; omega)]
      have : j - i = (j - (i + 1)) + 1 := by omega
      rw [this]; simp
    · rw [if_neg h1, Q.get_set]
      by_cases h2 : pathOf j = pathOf i
      · have := pathOf_inj h2; subst this
        rw [if_pos rfl, if_pos (by simp)]; simp
      · rw [if_neg h2, if_neg]
        intro h3
        simp at h3
        exact h2 (by congr 1; omega)
section
variable {P : Program} {X : Ext} {call : CallH}
theorem env_start {ρ : Rho} {args : List AV} {xs : List Value} {nt mask : Nat} (h : denL ρ args = some xs) (hn : args.length ≤ nt) : EnvOk ρ ⟨P, nt, mask, []⟩ [] (argsTm args 0 .nil) (xs.toArray ++ Array.replicate (nt - xs.toArray.size) undef) := by
  have hl := denL_length h
  refine ⟨by simp; omega, fun t v _ hv => ?_, rfl, fun k t v hk => by simp at hk⟩
  rw [argsTm_get] at hv
  split at hv
  · rename_i ht
    obtain ⟨x, h1, h2⟩ := denL_get h t v (by simpa using hv)
    refine ⟨x, ?_, h2⟩
    rw [Array.getElem?_append_left (by simp; omega)]
    simpa using h1
  · simp at hv
/-! ## Results -/
theorem getRes_ok {ρ : Rho} {h : AH} {w : World} {nt mask : Nat} {l : List AV} {tm : Q AV} {ts : Array Value} {r : ResultVar} {ar : ARes} {v : AV} {ns : List Nat} (m : Mem P ρ h w) (he : EnvOk ρ ⟨P, nt, mask, ns⟩ l tm ts) (hr : resOf P mask r = .ok ar) (hv : getRes tm h ar = .ok v) :
    ∃ x, den ρ v = some x ∧ ((match r with
      | .tmp t => pure (ts.getD t undef)
      | .cell a t => do loadVar t (← asAddr (ts.getD a undef)) : Sem Value)).run P w = .ok x w := by
  cases r with
  | tmp t =>
    obtain ⟨h1, h2⟩ := tst_eq.1 hr
    cases h2
    obtain ⟨x, g1, g2⟩ := he.slot t v h1 (Q.at_eq.1 hv)
    refine ⟨x, g2, ?_⟩
    simp only [Sem.run_pure]
    rw [Array.getD_eq_getD_getElem?, g1]; rfl
  | cell c t =>
    obtain ⟨h1, h2⟩ := tst_eq.1 hr
    obtain ⟨b, hb, h3⟩ := bind_eq.1 h2
    obtain ⟨n, hn, h4⟩ := bind_eq.1 h3
    cases h4
    rw [bsel_eq] at hv
    cases b with
    | true =>
      rw [if_pos rfl] at hv
      have hv : loadNF n (T (pathOf c)) [] tm h = .ok v := hv
      obtain ⟨u, hu, hh⟩ := bind_eq.1 hv
      obtain ⟨bb, off, rfl, hh2⟩ := onPtr_eq.1 hh
      obtain ⟨ob, e1, hh3⟩ := bind_eq.1 hh2
      obtain ⟨vs, e2, hh4⟩ := bind_eq.1 hh3
      cases hh4
      obtain ⟨x, g1, g2⟩ := he.slot c _ h1 (Q.at_eq.1 hu)
      obtain ⟨lc, hl, rfl⟩ := den_ptr_eq ρ g2
      obtain ⟨z, h5, h6⟩ := loadVarN_run m hb hn hl (bind_eq.2 ⟨ob, e1, e2⟩)
      refine ⟨z, h5, ?_⟩
      simp only [Sem.run_bind]
      rw [Array.getD_eq_getD_getElem?, g1]
      simp only [Option.getD_some, asAddr, Sem.run_pure, Result.andThen_ok, h6]
    | false =>
      rw [if_neg (by simp)] at hv
      have hv : load1F (T (pathOf c)) [] tm h = .ok v := hv
      obtain ⟨u, hu, hh⟩ := bind_eq.1 hv
      obtain ⟨bb, off, rfl, hh2⟩ := onPtr_eq.1 hh
      obtain ⟨x, g1, g2⟩ := he.slot c _ h1 (Q.at_eq.1 hu)
      obtain ⟨lc, hl, rfl⟩ := den_ptr_eq ρ g2
      obtain ⟨z, h5, h6⟩ := loadVar1_run m hb hl hh2
      refine ⟨z, h5, ?_⟩
      simp only [Sem.run_bind]
      rw [Array.getD_eq_getD_getElem?, g1]
      simp only [Option.getD_some, asAddr, Sem.run_pure, Result.andThen_ok, h6]
theorem results_run {ρ : Rho} {h : AH} {w : World} {nt mask : Nat} {l : List AV} {tm : Q AV} {ts : Array Value} {ns : List Nat} {fn : Func} {res : List ARes} {vs : List AV} (m : Mem P ρ h w) (he : EnvOk ρ ⟨P, nt, mask, ns⟩ l tm ts) (hr : mapR (resOf P mask) fn.results.toList = .ok res)
    (hv : mapR (getRes tm h) res = .ok vs) : ∃ x, den ρ (shutRes vs) = some x ∧ (results fn ts).run P w = .ok x w := by
  let g : ResultVar → Sem Value := fun
    | .tmp t => pure (ts.getD t undef)
    | .cell a t => do loadVar t (← asAddr (ts.getD a undef))
  have key : ∀ (rs : List ResultVar) (res : List ARes) (vs : List AV), mapR (resOf P mask) rs = .ok res → mapR (getRes tm h) res = .ok vs → ∃ xs, denL ρ vs = some xs ∧ (rs.mapM g).run P w = .ok xs w := by
    intro rs
    induction rs with
    | nil => intro res vs h1 h2; cases h1; cases h2; exact ⟨[], rfl, rfl⟩
    | cons r rs ih =>
      intro res vs h1 h2
      obtain ⟨ar, ars, e1, e2, rfl⟩ := mapR_cons_eq.1 h1
      obtain ⟨v, vs', e3, e4, rfl⟩ := mapR_cons_eq.1 h2
      obtain ⟨xs, g1, g2⟩ := ih ars vs' e2 e4
      obtain ⟨x, g3, g4⟩ := getRes_ok m he e1 e3
      have g4 : (g r).run P w = .ok x w := by cases r <;> exact g4
      exact ⟨x :: xs, denL_cons_eq.2 ⟨x, xs, g3, g1, rfl⟩, by simp only [List.mapM_cons, Sem.run_bind, g4, Result.andThen_ok, g2, Sem.run_pure]⟩
  obtain ⟨xs, h1, h2⟩ := key fn.results.toList res vs hr hv
  have hrun : (results fn ts).run P w = .ok (if h : xs.toArray.size = 1 then xs.toArray[0] else .tuple xs.toArray) w := by
    show ((do
      let vs ← fn.results.mapM g
      pure (if h : vs.size = 1 then vs[0] else .tuple vs) : Sem Value)).run P w = _
    rw [Array.mapM_eq_mapM_toList]
    simp only [map_eq_pure_bind, bind_assoc, pure_bind, Sem.run_bind, h2, Result.andThen_ok, Sem.run_pure]
  refine ⟨_, ?_, hrun⟩
  have hlen := denL_length h1
  cases vs with
  | nil =>
    have : xs = [] := List.length_eq_zero_iff.1 (by rw [hlen]; rfl)
    subst this
    exact den_tuple h1
  | cons v vs =>
    cases vs with
    | nil =>
      obtain ⟨y, ys, e1, e2, rfl⟩ := denL_cons_eq.1 h1
      cases e2
      exact e1
    | cons v' vs =>
      rw [dif_neg (by simp [hlen])]
      exact den_tuple h1

/-! ## Functions -/
structure FnOk (P : Program) (f : FuncId) (a : AFn) : Prop where
  ex : ∃ fn c mask, P.funcs[f]? = some fn ∧ (fn.name == "runtime.NumGoroutine") = false ∧ fn.body = some c ∧ a.nt = fn.ntmps ∧ a.code = (CE.code c ⟨P, fn.ntmps, mask, []⟩).1 ∧ mapR (resOf P mask) fn.results.toList = .ok a.res
theorem fnOk_of {f : FuncId} {a : AFn} {mask : Nat} {fn : Func} (hf : P.funcs[f]? = some fn) (hn : (fn.name == "runtime.NumGoroutine") = false) (h : compFn P mask f = .ok a) : FnOk P f a := by
  obtain ⟨fn', h1, h2⟩ := bind_eq.1 h
  have h1 := ofOpt_eq.1 h1
  rw [hf] at h1
  cases h1
  obtain ⟨c, h3, h4⟩ := bind_eq.1 h2
  obtain ⟨l, h5, h6⟩ := bind_eq.1 h4
  cases h6
  exact ⟨fn, c, mask, hf, hn, ofOpt_eq.1 h3, rfl, rfl, h5⟩
theorem callFunc_run {f : FuncId} {fn : Func} {c : Code} (hf : P.funcs[f]? = some fn) (hname : (fn.name == "runtime.NumGoroutine") = false) (hb : fn.body = some c) (args : Array Value) (w : World) : (callFunc f args).run P w = .ok (.enter f args) w := by
  have h' : ¬ fn.name = "runtime.NumGoroutine" := by simpa using hname
  simp [callFunc, hf, h', hb]
/-- What a deferred function does. -/
def DefOk (P : Program) (callD : CallH) : Prop := ∀ f args h v h', callD f args h = .ok (v, h') → num h.nx ≤ num h'.nx ∧ ∀ ρ w xs, Mem P ρ h w → Free ρ h h' → denL ρ args = some xs → ∀ u,
  (callFunc f xs.toArray).run P w = .ok (.enter f xs.toArray) w ∧ CallsD P f xs.toArray u w (fun e u' w' => u' = u ∧ Good P ρ h w v h' e w')
theorem defers_mono {callD : CallH} (hd : DefOk P callD) : ∀ {df : List ADefer} {h h' : AH}, runDefers callD df h = .ok h' → num h.nx ≤ num h'.nx
  | [], h, h', hr => by
    have hr : R.ok h = .ok h' := hr
    cases hr; exact Nat.le_refl _
  | d :: df, h, h', hr => by
    have hr : ((callD d.f d.args h).bind fun r => runDefers callD df r.2) = .ok h' := hr
    obtain ⟨⟨v, h1⟩, e1, e2⟩ := bind_eq.1 hr
    exact Nat.le_trans (hd _ _ _ _ _ e1).1 (defers_mono hd e2)
theorem leaves_ok {callD : CallH} (hd : DefOk P callD) {fn : Func} {nt mask : Nat} {ns : List Nat} {l : List AV} {tm : Q AV} {ts : Array Value} {res : List ARes} {R : Ending → World → Prop} (hres : mapR (resOf P mask) fn.results.toList = .ok res) :
    ∀ (df : List ADefer) (ds : List Deferred) (ρ : Rho) (h h' : AH) (w : World) (vs : List AV), DfOk ρ df ds → Mem P ρ h w → EnvOk ρ ⟨P, nt, mask, ns⟩ l tm ts → runDefers callD df h = .ok h' → mapR (getRes tm h') res = .ok vs → Free ρ h h' →
      (∀ e w' , Good P ρ h w (shutRes vs) h' e w' → R e w') → Leaves P fn ts R ds .returning w
  | [], [], ρ, h, h', w, vs, _, m, he, hr, hv, hf, hR => by
    have hr : Go.AX.R.ok h = .ok h' := hr
    cases hr
    obtain ⟨x, h1, h2⟩ := results_run m he hres hv
    exact ⟨x, h2, hR _ _ ⟨ρ, x, rfl, Step.refl ρ h w, m, h1⟩⟩
  | d :: df, x :: ds, ρ, h, h', w, vs, hdf, m, he, hr, hv, hf, hR => by
    have hr : ((callD d.f d.args h).bind fun r => runDefers callD df r.2) = .ok h' := hr
    obtain ⟨⟨v, h1⟩, e1, e2⟩ := bind_eq.1 hr
    obtain ⟨g1, g2, g3⟩ := hdf
    obtain ⟨_, hcall⟩ := hd _ _ _ _ _ e1
    obtain ⟨c1, c2⟩ := hcall ρ w x.args.toList m (hf.left (defers_mono hd e2)) g2 .returning
    obtain ⟨tg, ar⟩ := x
    simp only at g1 g2 c1 c2
    subst g1
    refine leaves_cons (by simp) (by simpa [invoke] using c1) (CallsD.mono c2 fun e u' w' hh => ?_)
    obtain ⟨rfl, ρ', y, rfl, hs, hm, hy⟩ := hh
    exact leaves_ok hd hres df ds ρ' h1 h' w' vs (g3.mono hs.ext) hm (he.mono hs.ext) e2 hv (hf.right hs) fun e w2 ⟨ρ2, z, q1, q2, q3, q4⟩ => hR e w2 ⟨ρ2, z, q1, hs.trans q2, q3, q4⟩
  | [], _ :: _, _, _, _, _, _, h, _, _, _, _, _, _ => h.elim
  | _ :: _, [], _, _, _, _, _, h, _, _, _, _, _, _ => h.elim
theorem tagE_ok {α : Type} {l : List Nat} {x : R α} {a : α} (h : tagE l x = .ok a) : x = .ok a := by
  cases x with
  | ok b => exact h
  | err m => cases h
theorem leave_ok {callD : CallH} {res : List ARes} {s : St} {v : AV} {h' : AH} (h : leave callD res s = .ok (v, h')) : ∃ vs, runDefers callD s.df s.hp = .ok h' ∧ mapR (getRes s.tm h') res = .ok vs ∧ v = shutRes vs := by
  obtain ⟨h1, e1, e2⟩ := bind_eq.1 h
  obtain ⟨vs, e3, e4⟩ := bind_eq.1 e2
  cases e4
  exact ⟨vs, e1, e3, rfl⟩
/-- How a function's abstract run ends. -/
theorem endFn_ok {callD : CallH} {res : List ARes} {r : CR} {v : AV} {h' : AH} (h : endFn callD res r = .ok (v, h')) : ∃ s, (r = .norm s ∨ r = .ret s) ∧ leave callD res s = .ok (v, h') := by
  cases r with
  | norm s => exact ⟨s, .inl rfl, h⟩
  | ret s => exact ⟨s, .inr rfl, h⟩
  | exit i s => cases h
  | err l => cases h
theorem runFn_mono {callD : CallH} {f : FuncId} {a : AFn} {args : List AV} {h h' : AH} {v : AV} (hm : MonoCall call) (hD : ∀ df h h', runDefers callD df h = .ok h' → num h.nx ≤ num h'.nx) (hfn : FnOk P f a) (hr : runFn call callD a args h = .ok (v, h')) : num h.nx ≤ num h'.nx := by
  obtain ⟨_, h1⟩ := tst_eq.1 hr
  obtain ⟨fn, c, mask, _, _, _, _, hcode, _⟩ := hfn.ex
  obtain ⟨s, h2, h3⟩ := endFn_ok h1
  obtain ⟨vs, h4, _, _⟩ := leave_ok h3
  have h5 := runA_mono a.code (by rw [hcode]; exact code_mono hm c _) ⟨[], argsTm args 0 .nil, h, []⟩
  have h6 : num h.nx ≤ num s.hp.nx := by
    rcases h2 with h2 | h2 <;> (rw [h2] at h5; exact h5)
  exact Nat.le_trans h6 (hD _ _ _ h4)
theorem fn_calls {callD : CallH} (hc : CallOk P X call) (hD : DefOk P callD) {f : FuncId} {a : AFn} {args : List AV} {h h' : AH} {v : AV} (hfn : FnOk P f a) (hr : runFn call callD a args h = .ok (v, h')) {ρ : Rho} {w : World} {xs : List Value} (m : Mem P ρ h w) (hf : Free ρ h h') (hx : denL ρ args = some xs) :
    (callFunc f xs.toArray).run P w = .ok (.enter f xs.toArray) w ∧ Calls P f xs.toArray w (Good P ρ h w v h') := by
  obtain ⟨hle, h1⟩ := tst_eq.1 hr
  rw [natBle_eq, len_eq] at hle
  obtain ⟨fn, c, mask, hfun, hname, hbody, hnt, hcode, hres⟩ := hfn.ex
  rw [hnt] at hle
  refine ⟨callFunc_run hfun hname hbody _ _, ?_⟩
  obtain ⟨s, h2, h3⟩ := endFn_ok h1
  obtain ⟨vs, h4, h5, rfl⟩ := leave_ok h3
  have hfs : Free ρ h s.hp := hf.left (defers_mono hD h4)
  rw [hcode] at h2
  refine calls_of_wp_defers hfun hbody (code_ok hc (draw_ok hc) c ⟨P, fn.ntmps, mask, []⟩ rfl ρ ⟨[], argsTm args 0 .nil, h, []⟩ _ w _ ⟨env_start hx hle, m, trivial⟩ ?_)
  have fin : ∀ ρ' a' w' E', Step ρ h w ρ' s.hp w' → StOk P ρ' E' s a' w' → Grows ⟨P, fn.ntmps, mask, []⟩ [] E' s.l → Leaves P fn a'.tmps (Good P ρ h w (shutRes vs) h') a'.defers .returning w' := by
    intro ρ' a' w' E' hs st hg
    exact leaves_ok hD hres s.df a'.defers ρ' s.hp h' w' vs st.df st.mem (hg.back st.env) h4 h5 (hf.right hs) fun e w2 ⟨ρ2, z, q1, q2, q3, q4⟩ => ⟨ρ2, z, q1, hs.trans q2, q3, q4⟩
  rcases h2 with h2 | h2
  · rw [h2]; exact ⟨hfs, fun ρ' a' w' hs st hg => fin ρ' a' w' _ hs st hg⟩
  · rw [h2]; exact ⟨hfs, fun ρ' a' w' E' hs st hg => fin ρ' a' w' E' hs st hg⟩
theorem noDefers {df : List ADefer} {h h' : AH} (hr : runDefers noCall df h = .ok h') : df = [] ∧ h' = h := by
  cases df with
  | nil =>
    have hr : R.ok h = .ok h' := hr
    cases hr; exact ⟨rfl, rfl⟩
  | cons d df => cases hr
theorem fn_callsD (hc : CallOk P X call) {f : FuncId} {a : AFn} {args : List AV} {h h' : AH} {v : AV} (hfn : FnOk P f a) (hr : runFn call noCall a args h = .ok (v, h')) {ρ : Rho} {w : World} {xs : List Value} (m : Mem P ρ h w) (hf : Free ρ h h') (hx : denL ρ args = some xs) (u : FrameMode) :
    (callFunc f xs.toArray).run P w = .ok (.enter f xs.toArray) w ∧ CallsD P f xs.toArray u w (fun e u' w' => u' = u ∧ Good P ρ h w v h' e w') := by
  obtain ⟨hle, h1⟩ := tst_eq.1 hr
  rw [natBle_eq, len_eq] at hle
  obtain ⟨fn, c, mask, hfun, hname, hbody, hnt, hcode, hres⟩ := hfn.ex
  rw [hnt] at hle
  refine ⟨callFunc_run hfun hname hbody _ _, ?_⟩
  obtain ⟨s, h2, h3⟩ := endFn_ok h1
  obtain ⟨vs, h4, h5, rfl⟩ := leave_ok h3
  obtain ⟨hdf, hh⟩ := noDefers h4
  subst hh
  rw [hcode] at h2
  refine callsD_of_wp hfun hbody (code_ok hc (draw_ok hc) c ⟨P, fn.ntmps, mask, []⟩ rfl ρ ⟨[], argsTm args 0 .nil, h, []⟩ _ w _ ⟨env_start hx hle, m, trivial⟩ ?_)
  have fin : ∀ ρ' a' w' E', Step ρ h w ρ' s.hp w' → StOk P ρ' E' s a' w' → Grows ⟨P, fn.ntmps, mask, []⟩ [] E' s.l → a'.defers = [] ∧ ∃ v, (results fn a'.tmps).run P w' = .ok v w' ∧ Good P ρ h w (shutRes vs) s.hp (.returned v) w' := by
    intro ρ' a' w' E' hs st hg
    obtain ⟨x, g1, g2⟩ := results_run st.mem (hg.back st.env) hres h5
    refine ⟨?_, x, g2, ρ', x, rfl, hs, st.mem, g1⟩
    have := st.df
    rw [hdf] at this
    cases hq : a'.defers with
    | nil => rfl
    | cons d ds => rw [hq] at this; exact this.elim
  rcases h2 with h2 | h2
  · rw [h2]; exact ⟨hf, fun ρ' a' w' hs st hg => fin ρ' a' w' _ hs st hg⟩
  · rw [h2]; exact ⟨hf, fun ρ' a' w' E' hs st hg => fin ρ' a' w' E' hs st hg⟩
/-- The functions taken by a contract. -/
def ExtOk (P : Program) (X : Ext) : Prop := ∀ f g ih, X f = some g → CallOk P X ih → ∀ args h v h', g ih args h = .ok (v, h') → num h.nx ≤ num h'.nx ∧
  ∀ ρ w xs, Mem P ρ h w → Free ρ h h' → denL ρ args = some xs → ∀ (o : Oper) (a : Act) (next : Act → World → Prop) (Q : Exit → Act → World → Prop),
    (∀ ρ' w' x, Step ρ h w ρ' h' w' → Mem P ρ' h' w' → den ρ' v = some x → next (a.put o.dst x) w') → o.upon P a next Q ((callFunc f xs.toArray).run P w)
theorem callOneD_ok {tab : FuncId → Option AFn} {ih : CallH} (hc : CallOk P X ih) (ht : ∀ f a, tab f = some a → FnOk P f a) : DefOk P (callOneD tab X ih) := by
  intro f args h v h' hr
  unfold callOneD at hr
  cases hx : X f with
  | some g => rw [hx] at hr; cases hr
  | none =>
    rw [hx] at hr
    have hr := tagE_ok hr
    obtain ⟨a, h1, h2⟩ := bind_eq.1 hr
    have hfn := ht f a (ofOpt_eq.1 h1)
    exact ⟨runFn_mono hc.mono (fun df h h' hd => by rw [(noDefers hd).2]; exact Nat.le_refl _) hfn h2, fun ρ w xs m hf hxs u => fn_callsD hc hfn h2 m hf hxs u⟩
theorem callN_ok {tab : FuncId → Option AFn} (hX : ExtOk P X) (ht : ∀ f a, tab f = some a → FnOk P f a) : ∀ n, CallOk P X (callN tab X n)
  | 0 => ⟨fun f args h v h' hr => (by cases hr), fun f args h v h' hr => (by cases hr)⟩
  | n + 1 => by
    have ih := callN_ok hX ht n
    have hD := callOneD_ok ih ht
    have key : ∀ f args h v h', callN tab X (n + 1) f args h = .ok (v, h') → (∃ g, X f = some g ∧ g (callN tab X n) args h = .ok (v, h')) ∨ (∃ a, FnOk P f a ∧ runFn (callN tab X n) (callOneD tab X (callN tab X n)) a args h = .ok (v, h')) := by
      intro f args h v h' hr
      have hr : callOne tab X (callN tab X n) f args h = .ok (v, h') := hr
      unfold callOne at hr
      cases hx : X f with
      | some g => rw [hx] at hr; exact .inl ⟨g, rfl, tagE_ok hr⟩
      | none =>
        rw [hx] at hr
        obtain ⟨a, h1, h2⟩ := bind_eq.1 (tagE_ok hr)
        exact .inr ⟨a, ht f a (ofOpt_eq.1 h1), h2⟩
    refine ⟨fun f args h v h' hr ρ w xs m hf hxs o a next Q hn => ?_, fun f args h v h' hr => ?_⟩
    · rcases key f args h v h' hr with ⟨g, h1, h2⟩ | ⟨fa, h1, h2⟩
      · exact (hX f g _ h1 ih args h v h' h2).2 ρ w xs m hf hxs o a next Q hn
      · obtain ⟨c1, c2⟩ := fn_calls ih hD h1 h2 m hf hxs
        rw [c1, Oper.upon_enter]
        refine Calls.mono c2 fun e w' hg => ?_
        obtain ⟨ρ', x, rfl, hs, hm, hd⟩ := hg
        exact hn ρ' w' x hs hm hd
    · rcases key f args h v h' hr with ⟨g, h1, h2⟩ | ⟨fa, h1, h2⟩
      · exact (hX f g _ h1 ih args h v h' h2).1
      · exact runFn_mono ih.mono (fun df h h' hd => defers_mono hD hd) h1 h2
/-- A call that the abstract executor takes to its end. -/
theorem calls_of_run {tab : FuncId → Option AFn} (hX : ExtOk P X) (ht : ∀ f a, tab f = some a → FnOk P f a) {n : Nat} {f : FuncId} (hXf : X f = none) {args : List AV} {h h' : AH} {v : AV} (hr : callN tab X n f args h = .ok (v, h')) {ρ : Rho} {w : World} {xs : List Value} (m : Mem P ρ h w) (hf : Free ρ h h') (hx : denL ρ args = some xs) :
    Calls P f xs.toArray w (Good P ρ h w v h') := by
  cases n with
  | zero => cases hr
  | succ n =>
    have ih := callN_ok hX ht n
    have hr : callOne tab X (callN tab X n) f args h = .ok (v, h') := hr
    unfold callOne at hr
    rw [hXf] at hr
    obtain ⟨a, h1, h2⟩ := bind_eq.1 (tagE_ok hr)
    exact (fn_calls ih (callOneD_ok ih ht) (ht f a (ofOpt_eq.1 h1)) h2 m hf hx).2
theorem tab_ok {l : List (Nat × AFn)} (hl : ∀ p, p ∈ l → FnOk P p.1 p.2) : ∀ f a, tabAt (tabOf l) f = some a → FnOk P f a := by
  intro f a h
  induction l with
  | nil => have h : Q.get (pathOf f) (.nil : Q AFn) = some a := h; simp at h
  | cons p l ih =>
    have h2 : Q.get (pathOf f) (Q.set (pathOf p.1) (some p.2) (tabOf l)) = some a := h
    clear h
    rw [Q.get_set] at h2
    split at h2
    · rename_i e
      have e1 := pathOf_inj e
      have e2 : p.2 = a := Option.some.inj h2
      rw [e1, ← e2]
      exact hl p (by simp)
    · exact ih (fun q hq => hl q (by simp [hq])) h2
end
end Go.AX
/- The abstract executor: memory at the entry of a call whose sentinels are laid; a contract. -/
namespace Go.AX
open Go.RowKit

/-- The sentinels: each a variable that holds a pointer to a string. 'base': where the strings' numbers begin. -/
noncomputable def sents (ev pt et base : Nat) : List (Nat × AV) → AH → AH
  | [], h => h
  | (g, s) :: l, h => sents ev pt et base l ((h.put (pathOf g) (.box ev true [.iface pt (.ptr (pathOf (base + g)) 0)])).put (pathOf (base + g)) (.box et true [s]))
theorem sents_get {ev pt et base : Nat} : ∀ (l : List (Nat × AV)) (h : AH) (p : Id) (o : AO), Q.get p (sents ev pt et base l h).tr = some o →
    Q.get p h.tr = some o ∨ ∃ g s, (g, s) ∈ l ∧ ((p = pathOf g ∧ o = .box ev true [.iface pt (.ptr (pathOf (base + g)) 0)]) ∨ (p = pathOf (base + g) ∧ o = .box et true [s]))
  | [], h, p, o, hp => .inl hp
  | (g, s) :: l, h, p, o, hp => by
    rcases sents_get l _ p o hp with h1 | ⟨g', s', h1, h2⟩
    · rw [get_put] at h1
      split at h1
      · rename_i e; cases h1; exact .inr ⟨g, s, by simp, .inr ⟨e, rfl⟩⟩
      · rw [get_put] at h1
        split at h1
        · rename_i e; cases h1; exact .inr ⟨g, s, by simp, .inl ⟨e, rfl⟩⟩
        · exact .inl h1
    · exact .inr ⟨g', s', by simp [h1], h2⟩
theorem sents_nx {ev pt et base : Nat} : ∀ (l : List (Nat × AV)) (h : AH), (sents ev pt et base l h).nx = h.nx
  | [], _ => rfl
  | (g, s) :: l, h => by
    show (sents ev pt et base l _).nx = _
    rw [sents_nx l]
    simp
noncomputable def rho0 (base n : Nat) (b o : Nat → Nat) : Rho := fun p => if num p < base then some ⟨num p, 0, 0⟩ else if num p < base + n then some ⟨b (num p - base), o (num p - base), 0⟩ else none
structure LaidOk (P : Program) (W : World) (n : Nat) (pt : TypeId) (b o : Nat → Nat) (s : Nat → Nat × Nat) : Prop where
  le : n ≤ P.globals.size
  glob : ∀ g, g < n → ∃ t z, W.heap[g]? = some (.cells #[.iface pt (.pointer (some ⟨b g, o g, none⟩))] t (z, z))
  sent : ∀ g, g < n → ∃ cs t z, W.heap[b g]? = some (.cells cs t (z, z)) ∧ cs[o g]? = some (.string (bytesOf (s g).1 (s g).2))
  dist : ∀ g g', g < n → g' < n → g ≠ g' → b g ≠ b g' ∨ o g ≠ o g'
noncomputable def h00 (ev pt et base n : Nat) (s : Nat → Nat × Nat) : AH := sents ev pt et base ((List.range n).map fun i => (i, .str (s i).1 (s i).2)) ⟨.nil, pathOf (base + n)⟩
theorem mem_laid {P : Program} {W : World} {n : Nat} {ev pt et : TypeId} {b o : Nat → Nat} {s : Nat → Nat × Nat} (h : LaidOk P W n pt b o s) (hfar : ∀ g g', g < n → g' < n → b g ≠ g') :
    Mem P (rho0 P.globals.size n b o) (h00 ev pt et P.globals.size n s) W ∧ (∀ cb, ¬ Wr (rho0 P.globals.size n b o) (h00 ev pt et P.globals.size n s) cb) := by
  have hle := h.le
  have r1 : ∀ g, g < n → rho0 P.globals.size n b o (pathOf g) = some ⟨g, 0, 0⟩ := fun g hg => by
    unfold rho0; rw [num_pathOf, if_pos (by omega)]
  have r2 : ∀ g, g < n → rho0 P.globals.size n b o (pathOf (P.globals.size + g)) = some ⟨b g, o g, 0⟩ := fun g hg => by
    unfold rho0
    rw [num_pathOf, if_neg (by omega), if_pos (by omega)]
    simp
  have get : ∀ p ob, Q.get p (h00 ev pt et P.globals.size n s).tr = some ob → ∃ g, g < n ∧ ((p = pathOf g ∧ ob = .box ev true [.iface pt (.ptr (pathOf (P.globals.size + g)) 0)]) ∨ (p = pathOf (P.globals.size + g) ∧ ob = .box et true [.str (s g).1 (s g).2])) := by
    intro p ob hp
    rcases sents_get _ _ p ob hp with h1 | ⟨g, v, h1, h2⟩
    · have h1 : Q.get p (.nil : Q AO) = some ob := h1
      simp at h1
    · obtain ⟨i, hi, he⟩ := List.mem_map.1 h1
      cases he
      exact ⟨_, by simpa using hi, h2⟩
  refine ⟨⟨fun p ob l hp hl => ?_, fun p p' ob ob' l l' hp hp' hl hl' hne => ?_, fun g hg => ⟨0, ?_⟩, fun p ob hp => ?_⟩, fun cb ⟨p, ob, l, hp, hro, _, _⟩ => ?_⟩
  · obtain ⟨g, hg, ⟨rfl, rfl⟩ | ⟨rfl, rfl⟩⟩ := get p ob hp
    · rw [r1 g hg] at hl
      cases hl
      obtain ⟨t, z, h1⟩ := h.glob g hg
      refine ⟨#[.iface pt (.pointer (some ⟨b g, o g, none⟩))], t, z, h1, by simp, ⟨fun h => (by cases h), fun h => by simp at h⟩, fun i v hv => ?_⟩
      cases i with
      | zero =>
        simp at hv; subst hv
        refine ⟨by simp, rfl, .iface pt (.pointer (some ⟨b g, o g, none⟩)), by simp, ?_⟩
        simp only [den, r2 g hg]
        rfl
      | succ i => simp at hv
    · rw [r2 g hg] at hl
      cases hl
      obtain ⟨cs, t, z, h1, h2⟩ := h.sent g hg
      have hlt := (Array.getElem?_eq_some_iff.1 h2).1
      refine ⟨cs, t, z, h1, by simp; omega, ⟨fun h => (by cases h), fun h => by simp at h⟩, fun i v hv => ?_⟩
      cases i with
      | zero =>
        simp at hv; subst hv
        exact ⟨by simp, rfl, _, by simpa using h2, den_str _ _ _⟩
      | succ i => simp at hv
  · obtain ⟨g, hg, ⟨rfl, rfl⟩ | ⟨rfl, rfl⟩⟩ := get p ob hp <;> obtain ⟨g', hg', ⟨rfl, rfl⟩ | ⟨rfl, rfl⟩⟩ := get p' ob' hp'
    · rw [r1 g hg] at hl; rw [r1 g' hg'] at hl'; cases hl; cases hl'
      exact .inl fun e => hne (by rw [show g = g' from e])
    · rw [r1 g hg] at hl; rw [r2 g' hg'] at hl'; cases hl; cases hl'
      exact .inl fun e => hfar g' g hg' hg e.symm
    · rw [r2 g hg] at hl; rw [r1 g' hg'] at hl'; cases hl; cases hl'
      exact .inl (hfar g g' hg hg')
    · rw [r2 g hg] at hl; rw [r2 g' hg'] at hl'; cases hl; cases hl'
      have hgg : g ≠ g' := fun e => hne (by rw [e])
      rcases h.dist g g' hg hg' hgg with h1 | h1
      · exact .inl h1
      · exact .inr ⟨rfl, rfl, h1⟩
  · unfold rho0; rw [num_pathOf, if_pos hg]
  · unfold h00
    rw [sents_nx]
    show num p < num (pathOf _)
    rw [num_pathOf]
    obtain ⟨g, hg, ⟨rfl, _⟩ | ⟨rfl, _⟩⟩ := get p ob hp <;> (rw [num_pathOf]; omega)
  · obtain ⟨g, hg, ⟨rfl, rfl⟩ | ⟨rfl, rfl⟩⟩ := get p ob hp <;> cases hro
theorem free_laid {base n : Nat} {ev pt et : TypeId} {b o : Nat → Nat} {s : Nat → Nat × Nat} (h' : AH) : Free (rho0 base n b o) (h00 ev pt et base n s) h' := by
  intro p h1 h2
  unfold h00 at h1
  rw [sents_nx] at h1
  have h1 : num (pathOf (base + n)) ≤ num p := h1
  rw [num_pathOf] at h1
  unfold rho0
  rw [if_neg (by omega), if_neg (by omega)]
/-- What a statement asks of a call: it answers true, and nothing below is turned. -/
theorem good_true {P : Program} {ρ : Rho} {h h' : AH} {w w' : World} {e : Ending} (hw : ∀ cb, ¬ Wr ρ h cb) (hg : Good P ρ h w (.bool true) h' e w') : e = .returned (.bool true) ∧ Below w.heap.size w w' := by
  obtain ⟨ρ', x, rfl, hs, _, hx⟩ := hg
  rw [den_bool] at hx
  cases hx
  exact ⟨rfl, hs.os, hs.tape, hs.output, hs.size, fun k hk => hs.frame k hk (hw k)⟩
/-- A function that hands its one argument back. -/
def idExt : CallH → List AV → AH → R (AV × AH) := fun _ args h => match args with
  | [v] => .ok (v, h)
  | _ => .err [400]
theorem idExt_ok {P : Program} {f : FuncId} (hrun : ∀ x w, (callFunc f #[x]).run P w = .ok (.value x) w) (ih : CallH) (args : List AV) (h : AH) (v : AV) (h' : AH) (hr : idExt ih args h = .ok (v, h')) : num h.nx ≤ num h'.nx ∧
    ∀ ρ w xs, Mem P ρ h w → Free ρ h h' → denL ρ args = some xs → ∀ (o : Oper) (a : Act) (next : Act → World → Prop) (Q : Exit → Act → World → Prop),
      (∀ ρ' w' x, Step ρ h w ρ' h' w' → Mem P ρ' h' w' → den ρ' v = some x → next (a.put o.dst x) w') → o.upon P a next Q ((callFunc f xs.toArray).run P w) := by
  unfold idExt at hr
  split at hr
  · cases hr
    refine ⟨Nat.le_refl _, fun ρ w xs m _ hx o a next Q hn => ?_⟩
    obtain ⟨y, ys, h1, h2, rfl⟩ := denL_cons_eq.1 hx
    cases h2
    rw [show ([y] : List Value).toArray = #[y] from rfl, hrun, Oper.upon_value]
    exact hn ρ w y (Step.refl ρ _ w) m h1
  · cases hr
end Go.AX
/- The abstract executor: the listed sentinels lie in memory as the abstract memory at entry has them. -/
namespace Go.AX

theorem laid_segs {P : Program} {w : World} : ∀ {laid : List (String × DataW Unit)} {ps : List MemPlace}, DataW.LaidVars P w laid ps → ∃ segs : List (List MemPlace), ps = segs.flatten ∧ ∀ (i : Nat) (n : String) (d : DataW Unit), laid[i]? = some (n, d) →
    ∃ g t cs fuel p, P.globalNamed n = some g ∧ (P.globals[g]?).map (·.type) = some t ∧ w.var? P n = some cs ∧ DataW.trod (fun _ => ()) P w 0 (fun _ => true) false fuel t cs.toList = some (d, p) ∧ segs[i]? = some (MemPlace.row ⟨g, 0, none⟩ cs.size ++ p)
  | [], ps, h => ⟨[], h, fun i n d hi => by simp at hi⟩
  | (n0, d0) :: r, ps, h => by
    obtain ⟨g, t, cs, fuel, p, q, h1, h2, h3, h4, h5, h6⟩ := h
    obtain ⟨segs, e1, e2⟩ := laid_segs h5
    refine ⟨(MemPlace.row ⟨g, 0, none⟩ cs.size ++ p) :: segs, by rw [h6, e1]; simp, fun i n d hi => ?_⟩
    cases i with
    | zero =>
      simp at hi
      obtain ⟨rfl, rfl⟩ := hi
      exact ⟨g, t, cs, fuel, p, h1, h2, h3, h4, rfl⟩
    | succ i => exact e2 i n d (by simpa using hi)
theorem flatten_apart {α : Type} : ∀ {l : List (List α)} {i j : Nat} {s t : List α} {x : α}, l.flatten.Nodup → l[i]? = some s → l[j]? = some t → i ≠ j → x ∈ s → x ∈ t → False
  | [], i, j, s, t, x, _, hi, _, _, _, _ => by simp at hi
  | a :: l, i, j, s, t, x, hn, hi, hj, hne, hs, ht => by
    rw [List.flatten_cons, List.nodup_append] at hn
    obtain ⟨_, n2, n3⟩ := hn
    cases i with
    | zero =>
      simp at hi; subst hi
      cases j with
      | zero => exact hne rfl
      | succ j => exact n3 x hs x (List.mem_flatten.2 ⟨t, List.mem_of_getElem? (by simpa using hj), ht⟩) rfl
    | succ i =>
      cases j with
      | zero =>
        simp at hj; subst hj
        exact n3 x ht x (List.mem_flatten.2 ⟨s, List.mem_of_getElem? (by simpa using hi), hs⟩) rfl
      | succ j => exact flatten_apart n2 (by simpa using hi) (by simpa using hj) (fun e => hne (by rw [e])) hs ht
/-- What a program says of its sentinels: the number of each in the list, its name, its text. -/
structure SentsAre (P : Program) (laid : List (String × DataW Unit)) (n : Nat) (pt : TypeId) (idx : Nat → Nat) (txt : Nat → List UInt8) : Prop where
  le : n ≤ P.globals.size
  at_ : ∀ g, g < n → ∃ nm, laid[idx g]? = some (nm, .iface "*errors.errorString" (.ptr (.agg [.lit (.string (txt g))]))) ∧ P.globalNamed nm = some g
  inj : ∀ g g', g < n → g' < n → idx g = idx g' → g = g'
  ty : ∃ ti te ts ms f, (∀ g, g < n → (P.globals[g]?).map (·.type) = some ti) ∧ P.underlying ti = some (.interface ms) ∧ (∀ u, P.typeName? 3 u = some "*errors.errorString" → u = pt) ∧ P.underlying pt = some (.pointer te) ∧ P.underlying te = some (.struct #[f]) ∧ f.type = ts ∧ f.offset = 0 ∧ P.underlying ts = some .string ∧ P.cellsOf te = 1 ∧ P.cellsOf ts = 1
theorem laidOk_of {P : Program} {W : World} {laid : List (String × DataW Unit)} {n : Nat} {pt : TypeId} {idx : Nat → Nat} {txt : Nat → List UInt8} (hs : SentsAre P laid n pt idx txt) (h : laidMet P laid W) :
    ∃ b o, LaidOk P W n pt b o (fun g => ((txt g).length, encL (txt g) 0)) ∧ ∀ g g', g < n → g' < n → b g ≠ g' := by
  obtain ⟨ps, hv, hnd, hrows⟩ := h
  obtain ⟨segs, rfl, hseg⟩ := laid_segs hv
  obtain ⟨ti, te, ts, ms, f, t1, t2, t3, t4, t5, t6, t7, t8, t9, t10⟩ := hs.ty
  have key : ∀ g, g < n → ∃ a : Nat × Nat, (∃ t, W.heap[g]? = some (.cells #[.iface pt (.pointer (some ⟨a.1, a.2, none⟩))] t (0, 0))) ∧ (∃ cs t, W.heap[a.1]? = some (.cells cs t (0, 0)) ∧ cs[a.2]? = some (.string (bytesOf (txt g).length (encL (txt g) 0)))) ∧
      ∃ sg, segs[idx g]? = some sg ∧ MemPlace.cell a.1 a.2 ∈ sg := by
    intro g hg
    obtain ⟨nm, h1, h2⟩ := hs.at_ g hg
    obtain ⟨g', t, cs, fuel, p, e1, e2, e3, e4, e5⟩ := hseg _ _ _ h1
    rw [h2] at e1
    cases e1
    rw [t1 g hg] at e2
    cases e2
    have hmem : ∀ x, x ∈ MemPlace.row ⟨g, 0, none⟩ cs.size ++ p → x ∈ segs.flatten := fun x hx => List.mem_flatten.2 ⟨_, List.mem_of_getElem? e5, hx⟩
    have hblk : ∃ t z, W.heap[g]? = some (.cells cs t z) := by
      unfold World.var? at e3
      rw [h2] at e3
      simp only [Option.bind_some] at e3
      split at e3
      · rename_i c t z hb; cases e3; exact ⟨t, z, hb⟩
      · cases e3
    obtain ⟨tg, z, hb⟩ := hblk
    have hok : ∀ u v, cs.toList = [.iface u v] → Value.okWide P W .any 0 u v := by
      intro u v hcs
      have hsz : cs.size = 1 := by rw [← Array.length_toList, hcs]; rfl
      refine (hrows g 0 (hmem _ (List.mem_append_left _ (by rw [hsz]; simp [MemPlace.row])))).2 u v ?_
      rw [cell_of_block hb, ← Array.getElem?_toList, hcs]; rfl
    obtain ⟨a, s, f1, f2, f3, f4, f5⟩ := Go.errorString_of_trod t2 t3 t4 t5 t6 t7 t8 t9 t10 e4 hok
    obtain ⟨bb, oo, sp⟩ := a
    have hsp : sp = none := by
      cases sp with
      | none => rfl
      | some x =>
        unfold World.cell? at f2
        split at f2 <;> simp at f2
    subst hsp
    have hcs : cs = #[.iface pt (.pointer (some ⟨bb, oo, none⟩))] := by
      apply Array.toList_inj.1; rw [f1]
    have hin : MemPlace.cell bb oo ∈ MemPlace.row ⟨g, 0, none⟩ cs.size ++ p := List.mem_append_right _ (by rw [f5]; simp [MemPlace.row])
    have hin0 : MemPlace.cell g 0 ∈ MemPlace.row ⟨g, 0, none⟩ cs.size ++ p := List.mem_append_left _ (by rw [hcs]; simp [MemPlace.row])
    obtain ⟨c2, t2', hb2⟩ := (hrows bb oo (hmem _ hin)).1
    obtain ⟨c3, t3', hb3⟩ := (hrows g 0 (hmem _ hin0)).1
    rw [hb] at hb3
    cases hb3
    refine ⟨(bb, oo), ⟨tg, by rw [hb, hcs]⟩, ⟨c2, t2', hb2, ?_⟩, _, e5, hin⟩
    rw [cell_of_block hb2] at f2
    rw [f2]
    congr 2
    have : s.data.toList = bytesL (txt g).length (encL (txt g) 0) := by rw [f3, bytesL_encL]
    apply ByteArray.ext
    unfold bytesOf
    apply Array.toList_inj.1
    rw [this]
  let b : Nat → Nat := fun g => if h : g < n then (Classical.choose (key g h)).1 else 0
  let o : Nat → Nat := fun g => if h : g < n then (Classical.choose (key g h)).2 else 0
  have spec : ∀ g, g < n → (∃ t, W.heap[g]? = some (.cells #[.iface pt (.pointer (some ⟨b g, o g, none⟩))] t (0, 0))) ∧ (∃ cs t, W.heap[b g]? = some (.cells cs t (0, 0)) ∧ cs[o g]? = some (.string (bytesOf (txt g).length (encL (txt g) 0)))) ∧
      ∃ sg, segs[idx g]? = some sg ∧ MemPlace.cell (b g) (o g) ∈ sg := by
    intro g hg
    have := Classical.choose_spec (key g hg)
    simp only [b, o, dif_pos hg]
    exact this
  refine ⟨b, o, ⟨hs.le, fun g hg => ?_, fun g hg => ?_, fun g g' hg hg' hne => ?_⟩, fun g g' hg hg' e => ?_⟩
  · obtain ⟨t, h1⟩ := (spec g hg).1; exact ⟨t, 0, h1⟩
  · obtain ⟨cs, t, h1, h2⟩ := (spec g hg).2.1; exact ⟨cs, t, 0, h1, h2⟩
  · obtain ⟨sg, h1, h2⟩ := (spec g hg).2.2
    obtain ⟨sg', h1', h2'⟩ := (spec g' hg').2.2
    by_cases e : b g = b g'
    · refine .inr fun e' => ?_
      rw [e, e'] at h2
      exact flatten_apart hnd h1 h1' (fun e => hne (hs.inj g g' hg hg' e)) h2 h2'
    · exact .inl e
  · obtain ⟨cs, t, h1, h2⟩ := (spec g hg).2.1
    obtain ⟨t', h3⟩ := (spec g' hg').1
    rw [e, h3] at h1
    cases h1
    have hlt := (Array.getElem?_eq_some_iff.1 h2).1
    have h0 : o g = 0 := by simp at hlt; omega
    rw [h0] at h2
    cases h2
end Go.AX
/- The abstract executor: operations that only look: the world stands. -/
namespace Go.AX
def OpQuiet : OpK → Prop
  | .pur _ => True
  | .rd _ => True
  | _ => False
def AOper.Quiet : AOper → Prop
  | .op _ k => OpQuiet k
  | .grd _ _ _ k => OpQuiet k
  | .dfr _ _ => False
section
variable {P : Program} {X : Ext} {call : CallH}
theorem put_other (a : Act) (d : Option Tmp) (x : Value) (t : Nat) (h : d ≠ some t) : (a.put d x).tmps[t]? = a.tmps[t]? := by
  cases d with
  | none => rfl
  | some d =>
    show (a.tmps.setIfInBounds d x)[t]? = _
    rw [Array.getElem?_setIfInBounds, if_neg (fun e => h (by rw [e]))]
def NextQ (P : Program) (ρ : Rho) (h : AH) (w : World) (d : Option Tmp) (a : Act) (E1 : CE) (K : K) (s : St) (df : List ADefer) (next : Act → World → Prop) : Prop :=
  ∀ a1 l1 tm1, StOk P ρ E1 ⟨l1, tm1, h, df⟩ a1 w → K l1 tm1 h df = .norm s → (∀ t, d ≠ some t → a1.tmps[t]? = a.tmps[t]?) → next a1 w
theorem nextQ_put {ρ : Rho} {h : AH} {w : World} {E E1 : CE} {l : List AV} {tm : Q AV} {df : List ADefer} {a : Act} {K : K} {s : St} {d : Option Tmp} {dd : Dst} {v : AV} {x : Value} {next : Act → World → Prop}
    (hd : E.dst d = .ok (dd, E1)) (st : StOk P ρ E ⟨l, tm, h, df⟩ a w) (hx : den ρ v = some x) (hr : putK dd K v l tm h df = .norm s) (hn : NextQ P ρ h w d a E1 K s df next) : next (a.put d x) w := by
  rw [putK_eq] at hr
  obtain ⟨e1, _⟩ := put_env hd st.env hx
  exact hn _ _ _ ⟨e1, st.mem, by rw [put_defers]; exact st.df⟩ hr fun t ht => put_other a d x t ht
theorem kop_quiet {o : Oper} {E E1 : CE} {k : OpK} {dd : Dst} {ρ : Rho} {l : List AV} {tm : Q AV} {h : AH} {df : List ADefer} {a : Act} {w : World} {K : K} {s : St} {next : Act → World → Prop} {Qx : Exit → Act → World → Prop} (hq : OpQuiet k) (ho : KOk P X o E k) (hP : E.P = P)
    (hd : E.dst o.dst = .ok (dd, E1)) (st : StOk P ρ E ⟨l, tm, h, df⟩ a w) (hr : opK call dd k K l tm h df = .norm s) (hn : NextQ P ρ h w o.dst a E1 K s df next) : o.wp P a w next Qx := by
  have hop : OpdsOk ρ E l tm a.eval o := fun x _ => opd_ok hP st.mem st.env x
  cases k with
  | pur f =>
    rw [opK_pur] at hr
    obtain ⟨v, h1, h2⟩ := rec_norm hr
    obtain ⟨x, g1, g2⟩ := ho ρ l tm a.eval w v hop h1
    show Oper.upon P o a next Qx _
    rw [g2, Oper.upon_value]
    exact nextQ_put hd st g1 h2 hn
  | rd f =>
    rw [opK_rd] at hr
    obtain ⟨v, h1, h2⟩ := rec_norm hr
    obtain ⟨x, g1, g2⟩ := ho ρ l tm h a.eval w v st.mem hop h1
    show Oper.upon P o a next Qx _
    rw [g2, Oper.upon_value]
    exact nextQ_put hd st g1 h2 hn
  | alc f => exact hq.elim
  | mem f => exact hq.elim
theorem oper_quiet {o : Oper} {E E1 : CE} {ops : Array Oper} {ao : AOper} {ρ : Rho} {l : List AV} {tm : Q AV} {h : AH} {df : List ADefer} {a : Act} {w : World} {K : K} {s : St} {next : Act → World → Prop} {Qx : Exit → Act → World → Prop} {i : Nat} (hq : ao.Quiet) (hP : E.P = P) (hi : ops[i]? = some o)
    (hco : E.oper ops o = .ok (ao, E1)) (st : StOk P ρ E ⟨l, tm, h, df⟩ a w) (hr : operK call ao K l tm h df = .norm s) (hn : NextQ P ρ h w o.dst a E1 K s df next) : wpOp P ops Qx i next a w := by
  unfold wpOp
  rw [hi]
  simp only
  rcases oper_compiled (X := fun _ => none) hP hco with ⟨f, q, c, hop, hcal, hg, hdst, hq', rfl, rfl⟩ | ⟨k, dd, hk, _, hd, ⟨hg, rfl⟩ | ⟨j, want, t, g, hg, ht, hgo, rfl⟩⟩
  · exact hq.elim
  · have hw : Region.wanted o (yielded ops a.tmps) = true := by simp [Region.wanted, hg]
    rw [if_pos hw]
    exact .inl (kop_quiet hq hk hP hd st hr hn)
  · obtain ⟨v, h1, h2⟩ := rec_norm hr
    rw [wanted_of hP st.mem st.env hg ht hgo h1]
    rw [bsel_eq] at h2
    split at h2
    · rename_i hw
      rw [if_pos hw]
      exact .inl (kop_quiet hq hk hP hd st h2 hn)
    · rename_i hw
      rw [if_neg hw]
      exact nextQ_put hd st (den_undef ρ) h2 hn
theorem opers_quiet {ops : Array Oper} {Qx : Exit → Act → World → Prop} {rest : List Nat} : ∀ (os : List Oper) (i : Nat) (E E' : CE) (as : List AOper), (∀ j o, os[j]? = some o → ops[i + j]? = some o) → E.opers ops os = .ok (as, E') → E.P = P → (∀ x ∈ as, x.Quiet) →
    ∀ ρ l tm h df a w s, StOk P ρ E ⟨l, tm, h, df⟩ a w → opsK call as l tm h df = .norm s →
      (∀ a', s.hp = h → StOk P ρ E' s a' w → (∀ t, (∀ o ∈ os, o.dst ≠ some t) → a'.tmps[t]? = a.tmps[t]?) → wpOps P ops Qx rest a' w) → wpOps P ops Qx (List.range' i os.length ++ rest) a w
  | [], i, E, E', as, _, hco, hP, _, ρ, l, tm, h, df, a, w, s, st, hr, hq => by
    have hco : R.ok (([] : List AOper), E) = .ok (as, E') := hco
    cases hco
    have hr : CR.norm ⟨l, tm, h, df⟩ = .norm s := hr
    cases hr
    exact hq a rfl st fun _ _ => rfl
  | o :: os, i, E, E', as, hin, hco, hP, hqu, ρ, l, tm, h, df, a, w, s, st, hr, hq => by
    rw [opers_cons] at hco
    obtain ⟨⟨ao, E1⟩, h1, h2⟩ := bind_eq.1 hco
    obtain ⟨⟨as', E2⟩, h3, h4⟩ := bind_eq.1 h2
    cases h4
    rw [opsK_cons] at hr
    show wpOps P ops Qx (i :: (List.range' (i + 1) os.length ++ rest)) a w
    rw [wpOps_cons]
    refine oper_quiet (hqu ao (by simp)) hP (by have := hin 0 o rfl; simpa using this) h1 st hr fun a1 l1 tm1 st1 hk hsame => ?_
    exact opers_quiet os (i + 1) E1 _ as' (fun j o' hj => by have := hin (j + 1) o' (by simpa using hj); rw [Nat.add_assoc, Nat.add_comm 1 j]; exact this) h3 ((oper_prog h1).trans hP) (fun x hx => hqu x (by simp [hx])) ρ l1 tm1 h df a1 w s st1 hk
      fun a' hh st' hs' => hq a' hh st' fun t ht => by rw [hs' t fun o' ho' => ht o' (by simp [ho']), hsame t (ht o (by simp))]
end
/-- A world in which blocks were laid and answers drawn, the old blocks standing. -/
theorem Mem.grown {P : Program} {ρ : Rho} {h : AH} {w w' : World} (m : Mem P ρ h w) (ho : w'.os = w.os) (ht : w'.tape = w.tape) (hu : w'.output = w.output) (hs : w.heap.size ≤ w'.heap.size) (hb : ∀ k, k < w.heap.size → w'.heap[k]? = w.heap[k]?) : Mem P ρ h w' ∧ Step ρ h w ρ h w' :=
  ⟨⟨fun b o l h1 h2 => ObjOk.mono (Rho.le_refl _) (hb l.cb (m.obj b o l h1 h2).lt) (m.obj b o l h1 h2), m.apart, m.glob, m.wf⟩,
   ⟨Rho.le_refl _, fun _ hx => .inl hx, Nat.le_refl _, ho, ht, hu, hs, fun cb hcb _ => hb cb hcb, fun _ h => .inl h, fun _ h => .inl h, fun _ _ _ => rfl⟩⟩
end Go.AX
/- The abstract executor: steps taken by hand. -/
namespace Go.AX
section
variable {call : CallH} {K : K} {l : List AV} {tm : Q AV} {h : AH} {df : List ADefer} {Φ : St → Prop} {p : Id} {v : AV}
theorem ex_end (hΦ : Φ ⟨l, tm, h, df⟩) : ∃ s, opsK call [] l tm h df = .norm s ∧ Φ s := ⟨_, rfl, hΦ⟩
theorem ex_pur {f : Opd} {as : List AOper} (h1 : f l tm = .ok v) (h2 : ∃ s, opsK call as l (Q.set p (some v) tm) h df = .norm s ∧ Φ s) : ∃ s, opsK call (.op (.slot p) (.pur f) :: as) l tm h df = .norm s ∧ Φ s := by
  rw [opsK_cons]
  show ∃ s, opK call (.slot p) (.pur f) (opsK call as) l tm h df = .norm s ∧ Φ s
  rw [opK_pur, h1]
  exact h2
theorem ex_rd {f : List AV → Q AV → AH → R AV} {as : List AOper} (h1 : f l tm h = .ok v) (h2 : ∃ s, opsK call as l (Q.set p (some v) tm) h df = .norm s ∧ Φ s) : ∃ s, opsK call (.op (.slot p) (.rd f) :: as) l tm h df = .norm s ∧ Φ s := by
  rw [opsK_cons]
  show ∃ s, opK call (.slot p) (.rd f) (opsK call as) l tm h df = .norm s ∧ Φ s
  rw [opK_rd, h1]
  exact h2
theorem ex_off {g : Opd} {want : Bool} {k : OpK} {as : List AOper} {u : AV} (h0 : g l tm = .ok u) (hw : wantB want u = false) (h2 : ∃ s, opsK call as l (Q.set p (some .undef) tm) h df = .norm s ∧ Φ s) : ∃ s, opsK call (.grd g want (.slot p) k :: as) l tm h df = .norm s ∧ Φ s := by
  rw [opsK_cons]
  show ∃ s, grdK call g want (.slot p) k (opsK call as) l tm h df = .norm s ∧ Φ s
  unfold grdK
  rw [h0]
  show ∃ s, bsel (wantB want u) _ _ = CR.norm s ∧ Φ s
  rw [hw]
  exact h2
theorem ex_on {g : Opd} {want : Bool} {k : OpK} {as : List AOper} {u : AV} (h0 : g l tm = .ok u) (hw : wantB want u = true) (h2 : ∃ s, opsK call (.op (.slot p) k :: as) l tm h df = .norm s ∧ Φ s) : ∃ s, opsK call (.grd g want (.slot p) k :: as) l tm h df = .norm s ∧ Φ s := by
  rw [opsK_cons]
  show ∃ s, grdK call g want (.slot p) k (opsK call as) l tm h df = .norm s ∧ Φ s
  unfold grdK
  rw [h0]
  show ∃ s, bsel (wantB want u) _ _ = CR.norm s ∧ Φ s
  rw [hw]
  exact h2
theorem T_same : T p l (Q.set p (some v) tm) = .ok v := by
  unfold T Q.at
  rw [Q.get_set, if_pos rfl]; rfl
theorem T_other {q : Id} (h : q ≠ p) : T q l (Q.set p (some v) tm) = T q l tm := by
  unfold T Q.at
  rw [Q.get_set, if_neg h]
end
end Go.AX
/- The abstract executor: a region that only looks, its abstract run taken by hand. -/
namespace Go.AX
theorem quiet_region {P : Program} {E : CE} {ops : Array Oper} {as : List AOper} {id : Nat} {ρ : Rho} {tm : Q AV} {h : AH} {a : Act} {w : World} {Φ : St → Prop} {Qx : Exit → Act → World → Prop} {call : CallH} (hco : E.opers ops ops.toList = .ok (as, E)) (hP : E.P = P) (hq : ∀ x ∈ as, x.Quiet)
    (st : StOk P ρ E ⟨[], tm, h, []⟩ a w) (hr : ∃ s, opsK call as [] tm h [] = .norm s ∧ Φ s)
    (hQ : ∀ a' s, Φ s → s.hp = h → StOk P ρ E s a' w → (∀ t, (∀ o ∈ ops.toList, o.dst ≠ some t) → a'.tmps[t]? = a.tmps[t]?) → Qx .normal a' w) : (Code.region id ops false).wp P Qx a w := by
  obtain ⟨s, h1, h2⟩ := hr
  refine wp_region ?_
  rw [List.range_eq_range']
  have := opers_quiet (P := P) (ops := ops) (Qx := Qx) (rest := []) ops.toList 0 E E as (fun j o hj => by rw [Nat.zero_add, ← Array.getElem?_toList]; exact hj) hco hP hq ρ [] tm h [] a w s st h1 fun a' hh st' hs => hQ a' s h2 hh st' hs
  rw [Array.length_toList, List.append_nil] at this
  exact this
/-- All operations but the last only look. -/
theorem quiet_then {P : Program} {E : CE} {ops : Array Oper} {as : List AOper} {id : Nat} {ρ : Rho} {tm : Q AV} {h : AH} {a : Act} {w : World} {Φ : St → Prop} {Qx : Exit → Act → World → Prop} {call : CallH} (n : Nat) (hn : ops.size = n + 1) (hco : E.opers ops (ops.toList.take n) = .ok (as, E)) (hP : E.P = P) (hq : ∀ x ∈ as, x.Quiet)
    (st : StOk P ρ E ⟨[], tm, h, []⟩ a w) (hr : ∃ s, opsK call as [] tm h [] = .norm s ∧ Φ s)
    (hQ : ∀ a' s, Φ s → s.hp = h → StOk P ρ E s a' w → (∀ t, (∀ o ∈ ops.toList.take n, o.dst ≠ some t) → a'.tmps[t]? = a.tmps[t]?) → wpOp P ops Qx n (Qx .normal) a' w) : (Code.region id ops false).wp P Qx a w := by
  obtain ⟨s, h1, h2⟩ := hr
  refine wp_region ?_
  have hl : (ops.toList.take n).length = n := by rw [List.length_take, Array.length_toList]; omega
  have := opers_quiet (P := P) (ops := ops) (Qx := Qx) (rest := [n]) (ops.toList.take n) 0 E E as (fun j o hj => by
    have hlt := (List.getElem?_eq_some_iff.1 hj).1
    rw [List.getElem?_take_of_lt (by omega)] at hj
    rw [Nat.zero_add, ← Array.getElem?_toList]; exact hj) hco hP hq ρ [] tm h [] a w s st h1 fun a' hh st' hs => by
      rw [wpOps_cons]
      exact hQ a' s h2 hh st' hs
  rw [hl] at this
  rw [hn, List.range_eq_range', List.range'_concat]
  simpa using this
theorem wpOp_plain {P : Program} {ops : Array Oper} {o : Oper} {n : Nat} {Qx : Exit → Act → World → Prop} {K : Act → World → Prop} {a : Act} {w : World} (ho : ops[n]? = some o) (hg : o.guard = none) {v : Value} {w' : World} (hrun : (execOp a.eval o).run P w = .ok (.value v) w') (h : K (a.put o.dst v) w') : wpOp P ops Qx n K a w := by
  unfold wpOp
  rw [ho]
  simp only
  have hw : Region.wanted o (yielded ops a.tmps) = true := by simp [Region.wanted, hg]
  rw [if_pos hw]
  refine .inl ?_
  show Oper.upon P o a K Qx _
  rw [hrun, Oper.upon_value]
  exact h
end Go.AX
/- The closure that asks whether a group is ready: its pieces, run by hand. -/
namespace Go.AX
noncomputable def pp (n : Nat) : Id := pathOf n
theorem pp_ne {m n : Nat} (h : m ≠ n) : pathOf m ≠ pathOf n := fun e => h (pathOf_inj e)
noncomputable def zero64 : AV := .int .i64 (.ofNat 0)
noncomputable def as4 : List AOper := [.op (.slot (pathOf 15)) (.rd (load1F (T (pathOf 2)))), .op (.slot (pathOf 16)) (.pur (T (pathOf 5))), .op (.slot (pathOf 17)) (.rd (r2 (lookV keyI zero64) (T (pathOf 15)) (T (pathOf 16)))),
  .op (.slot (pathOf 18)) (.pur (b2 (intV eqI) (T (pathOf 17)) (C zero64))), .op (.slot (pathOf 19)) (.pur (T (pathOf 18))),
  .grd (T (pathOf 19)) true (.slot (pathOf 20)) (.rd (load1F (T (pathOf 1)))), .grd (T (pathOf 19)) true (.slot (pathOf 21)) (.pur (T (pathOf 5))), .grd (T (pathOf 19)) true (.slot (pathOf 22)) (.pur (b2 (indexAddrSV 1) (T (pathOf 20)) (T (pathOf 21)))),
  .grd (T (pathOf 19)) true (.slot (pathOf 23)) (.rd (load1F (T (pathOf 22)))), .grd (T (pathOf 19)) true (.slot (pathOf 24)) (.pur (T (pathOf 0))), .grd (T (pathOf 19)) true (.slot (pathOf 25)) (.rd (r2 (lookV keyI zero64) (T (pathOf 23)) (T (pathOf 24)))),
  .grd (T (pathOf 19)) true (.slot (pathOf 26)) (.pur (b2 (intV eqI) (T (pathOf 25)) (C zero64))), .op (.slot (pathOf 27)) (.pur (pickF (T (pathOf 19)) (T (pathOf 26)) (C (.bool false))))]
/-- What a piece leaves: the memory, and every slot but its own. -/
def Left (lo hi : Nat) (tm : Q AV) (h : AH) (s : St) : Prop := s.l = [] ∧ s.hp = h ∧ s.df = [] ∧ ∀ q, ¬ (lo ≤ q ∧ q ≤ hi) → T (pathOf q) [] s.tm = T (pathOf q) [] tm
theorem T_keep {l : List AV} {m n : Nat} {v : AV} {tm : Q AV} {r : R AV} (h : m ≠ n) (h2 : T (pathOf m) l tm = r) : T (pathOf m) l (Q.set (pathOf n) (some v) tm) = r := by rw [T_other (pp_ne h)]; exact h2
theorem load1F_eq {x : Opd} {l : List AV} {tm : Q AV} {h : AH} {b : Id} {o : Nat} {v : AV} (hx : x l tm = .ok (.ptr b o)) (hv : (h.obj b).bind (load1O o) = .ok v) : load1F x l tm h = .ok v := by
  unfold load1F
  rw [hx]
  exact hv
theorem r2_eq {f : AH → AV → AV → R AV} {x y : Opd} {l : List AV} {tm : Q AV} {h : AH} {a b v : AV} (hx : x l tm = .ok a) (hy : y l tm = .ok b) (hv : f h a b = .ok v) : r2 f x y l tm h = .ok v := by
  unfold r2
  rw [hx, bind_ok, hy]
  exact hv
theorem b2_eq {f : AV → AV → R AV} {x y : Opd} {l : List AV} {tm : Q AV} {a b v : AV} (hx : x l tm = .ok a) (hy : y l tm = .ok b) (hv : f a b = .ok v) : b2 f x y l tm = .ok v := by
  unfold b2
  rw [hx, bind_ok, hy]
  exact hv
theorem eq0 (n : Int) : intV eqI (.int .i64 n) zero64 = .ok (.bool (intEq n 0)) := rfl
section
variable {call : CallH} {tm : Q AV} {h : AH} {b1 b2 : Id} {o1 o2 : Nat} {k i n n' : Int} {done needs m : AV} {bN : Id} {oN : Nat}
theorem piece4_no (h2 : T (pathOf 2) [] tm = .ok (.ptr b2 o2)) (h5 : T (pathOf 5) [] tm = .ok (.int .i64 k)) (hd : (h.obj b2).bind (load1O o2) = .ok done) (hl : lookV keyI zero64 h done (.int .i64 k) = .ok (.int .i64 n)) (hn : intEq n 0 = false) :
    ∃ s, opsK call as4 [] tm h [] = .norm s ∧ (Left 15 27 tm h s ∧ T (pathOf 27) [] s.tm = .ok (.bool false)) := by
  unfold as4
  refine ex_rd (load1F_eq h2 hd) ?_
  refine ex_pur (T_keep (by decide) h5) ?_
  refine ex_rd (r2_eq (T_keep (by decide) T_same) T_same hl) ?_
  refine ex_pur (b2_eq T_same rfl (eq0 n)) ?_
  rw [hn]
  refine ex_pur T_same ?_
  refine ex_off T_same rfl ?_
  refine ex_off (T_keep (by decide) T_same) rfl ?_
  refine ex_off (T_keep (by decide) (T_keep (by decide) T_same)) rfl ?_
  refine ex_off (T_keep (by decide) (T_keep (by decide) (T_keep (by decide) T_same))) rfl ?_
  refine ex_off (T_keep (by decide) (T_keep (by decide) (T_keep (by decide) (T_keep (by decide) T_same)))) rfl ?_
  refine ex_off (T_keep (by decide) (T_keep (by decide) (T_keep (by decide) (T_keep (by decide) (T_keep (by decide) T_same))))) rfl ?_
  refine ex_off (T_keep (by decide) (T_keep (by decide) (T_keep (by decide) (T_keep (by decide) (T_keep (by decide) (T_keep (by decide) T_same)))))) rfl ?_
  refine ex_pur (v := .bool false) ?_ ?_
  · unfold pickF
    rw [T_keep (by decide) (T_keep (by decide) (T_keep (by decide) (T_keep (by decide) (T_keep (by decide) (T_keep (by decide) (T_keep (by decide) T_same))))))]
    rfl
  · refine ex_end ⟨⟨rfl, rfl, rfl, fun q hq => ?_⟩, T_same⟩
    simp only
    repeat (rw [T_other (pp_ne (by omega))])
theorem piece4_yes (h0 : T (pathOf 0) [] tm = .ok (.int .i64 i)) (h1 : T (pathOf 1) [] tm = .ok (.ptr b1 o1)) (h2 : T (pathOf 2) [] tm = .ok (.ptr b2 o2)) (h5 : T (pathOf 5) [] tm = .ok (.int .i64 k)) (hd : (h.obj b2).bind (load1O o2) = .ok done) (hl : lookV keyI zero64 h done (.int .i64 k) = .ok (.int .i64 n)) (hn : intEq n 0 = true)
    (hne : (h.obj b1).bind (load1O o1) = .ok needs) (hix : indexAddrSV 1 needs (.int .i64 k) = .ok (.ptr bN oN)) (hm : (h.obj bN).bind (load1O oN) = .ok m) (hl2 : lookV keyI zero64 h m (.int .i64 i) = .ok (.int .i64 n')) :
    ∃ s, opsK call as4 [] tm h [] = .norm s ∧ (Left 15 27 tm h s ∧ T (pathOf 27) [] s.tm = .ok (.bool (intEq n' 0))) := by
  unfold as4
  refine ex_rd (load1F_eq h2 hd) ?_
  refine ex_pur (T_keep (by decide) h5) ?_
  refine ex_rd (r2_eq (T_keep (by decide) T_same) T_same hl) ?_
  refine ex_pur (b2_eq T_same rfl (eq0 n)) ?_
  rw [hn]
  refine ex_pur T_same ?_
  refine ex_on T_same rfl (ex_rd (load1F_eq (v := needs) ?_ hne) ?_)
  · repeat (refine T_keep (by decide) ?_)
    exact h1
  refine ex_on (T_keep (by decide) T_same) rfl (ex_pur (v := .int .i64 k) ?_ ?_)
  · repeat (refine T_keep (by decide) ?_)
    exact h5
  refine ex_on (T_keep (by decide) (T_keep (by decide) T_same)) rfl (ex_pur (b2_eq (T_keep (by decide) T_same) T_same hix) ?_)
  refine ex_on (T_keep (by decide) (T_keep (by decide) (T_keep (by decide) T_same))) rfl (ex_rd (load1F_eq T_same hm) ?_)
  refine ex_on (T_keep (by decide) (T_keep (by decide) (T_keep (by decide) (T_keep (by decide) T_same)))) rfl (ex_pur (v := .int .i64 i) ?_ ?_)
  · repeat (refine T_keep (by decide) ?_)
    exact h0
  refine ex_on (T_keep (by decide) (T_keep (by decide) (T_keep (by decide) (T_keep (by decide) (T_keep (by decide) T_same))))) rfl (ex_rd (r2_eq (T_keep (by decide) T_same) T_same hl2) ?_)
  refine ex_on (T_keep (by decide) (T_keep (by decide) (T_keep (by decide) (T_keep (by decide) (T_keep (by decide) (T_keep (by decide) T_same)))))) rfl (ex_pur (b2_eq T_same rfl (eq0 n')) ?_)
  refine ex_pur (v := .bool (intEq n' 0)) ?_ ?_
  · unfold pickF
    rw [T_keep (by decide) (T_keep (by decide) (T_keep (by decide) (T_keep (by decide) (T_keep (by decide) (T_keep (by decide) (T_keep (by decide) T_same))))))]
    exact T_same (l := [])
  · refine ex_end ⟨⟨rfl, rfl, rfl, fun q hq => ?_⟩, T_same⟩
    simp only
    repeat (rw [T_other (pp_ne (by omega))])
noncomputable def as1 : List AOper := [.op (.slot (pathOf 6)) (.rd (load1F (T (pathOf 1)))), .op (.slot (pathOf 7)) (.pur (T (pathOf 0))), .op (.slot (pathOf 8)) (.pur (AX.b2 (indexAddrSV 1) (T (pathOf 6)) (T (pathOf 7)))), .op (.slot (pathOf 9)) (.rd (load1F (T (pathOf 8))))]
theorem piece1 (h0 : T (pathOf 0) [] tm = .ok (.int .i64 i)) (h1 : T (pathOf 1) [] tm = .ok (.ptr b1 o1)) (hne : (h.obj b1).bind (load1O o1) = .ok needs) (hix : indexAddrSV 1 needs (.int .i64 i) = .ok (.ptr bN oN)) (hm : (h.obj bN).bind (load1O oN) = .ok m) :
    ∃ s, opsK call as1 [] tm h [] = .norm s ∧ (Left 6 9 tm h s ∧ T (pathOf 9) [] s.tm = .ok m) := by
  unfold as1
  refine ex_rd (load1F_eq h1 hne) ?_
  refine ex_pur (T_keep (by decide) h0) ?_
  refine ex_pur (b2_eq (T_keep (by decide) T_same) T_same hix) ?_
  refine ex_rd (load1F_eq T_same hm) ?_
  refine ex_end ⟨⟨rfl, rfl, rfl, fun q hq => ?_⟩, T_same⟩
  simp only
  repeat (rw [T_other (pp_ne (by omega))])
noncomputable def as6 : List AOper := [.op (.slot (pathOf 28)) (.rd (load1F (T (pathOf 2)))), .op (.slot (pathOf 29)) (.pur (T (pathOf 0))), .op (.slot (pathOf 30)) (.rd (r2 (lookV keyI zero64) (T (pathOf 28)) (T (pathOf 29)))), .op (.slot (pathOf 31)) (.pur (AX.b2 (intV eqI) (T (pathOf 30)) (C zero64))), .op (.slot (pathOf 4)) (.pur (T (pathOf 31)))]
theorem piece6 (h0 : T (pathOf 0) [] tm = .ok (.int .i64 i)) (h2 : T (pathOf 2) [] tm = .ok (.ptr b2 o2)) (hd : (h.obj b2).bind (load1O o2) = .ok done) (hl : lookV keyI zero64 h done (.int .i64 i) = .ok (.int .i64 n)) :
    ∃ s, opsK call as6 [] tm h [] = .norm s ∧ (s.l = [] ∧ s.hp = h ∧ s.df = [] ∧ T (pathOf 4) [] s.tm = .ok (.bool (intEq n 0))) := by
  unfold as6
  refine ex_rd (load1F_eq h2 hd) ?_
  refine ex_pur (T_keep (by decide) h0) ?_
  refine ex_rd (r2_eq (T_keep (by decide) T_same) T_same hl) ?_
  refine ex_pur (b2_eq T_same rfl (eq0 n)) ?_
  refine ex_pur T_same ?_
  exact ex_end ⟨rfl, rfl, rfl, T_same⟩
end
/-! ## The contract's function -/
/-- The entries were laid one behind the other, all ahead of the clock. -/
noncomputable def bornsOk (c : Nat) (es : List AE) : Nat → Bool := List.rec (motive := fun _ => Nat → Bool) (fun lo => Nat.ble lo c) (fun e _ ih lo => band (Nat.ble lo e.born) (ih (e.born + 1))) es
noncomputable def entriesA (h : AH) (m : AV) : R (List AE) := match m with
  | .map0 => .ok []
  | .map b => (h.obj b).bind (onMapO 403 fun es c => tst 404 (bornsOk c es 0) (.ok es))
  | _ => .err [405]
/-- Does an entry stand in the way? -/
noncomputable def blockA (h : AH) (needs done : AV) (i : Int) (e : AE) : R Bool := onInt 406 (fun kk k => tst 407 (kindEq kk .i64) ((lookV keyI zero64 h done (.int .i64 k)).bind (onInt 408 fun nk n => tst 409 (kindEq nk .i64) (bsel (intEq n 0)
  ((indexAddrSV 1 needs (.int .i64 k)).bind (onPtr 410 fun bN oN => ((h.obj bN).bind (load1O oN)).bind fun m => (lookV keyI zero64 h m (.int .i64 i)).bind (onInt 411 fun nk' n' => tst 412 (kindEq nk' .i64) (.ok (intEq n' 0))))) (.ok false))))) e.key
noncomputable def anyA (h : AH) (needs done : AV) (i : Int) (es : List AE) : R Bool := List.rec (motive := fun _ => R Bool) (.ok false) (fun e _ ih => (blockA h needs done i e).bind fun b => ih.bind fun r => .ok (bor b r)) es
noncomputable def readyA : CallH → List AV → AH → R (AV × AH) := fun _ args h => match args with
  | [.int .i64 i, .ptr b1 o1, .ptr b2 o2] => ((h.obj b1).bind (load1O o1)).bind fun needs => ((h.obj b2).bind (load1O o2)).bind fun done =>
    (indexAddrSV 1 needs (.int .i64 i)).bind (onPtr 413 fun bN oN => ((h.obj bN).bind (load1O oN)).bind fun m => (entriesA h m).bind fun es => (anyA h needs done i es).bind fun x =>
      bsel x (.ok (.bool false, h)) ((lookV keyI zero64 h done (.int .i64 i)).bind (onInt 414 fun nk n => tst 415 (kindEq nk .i64) (.ok (.bool (intEq n 0), h)))))
  | _ => .err [416]
theorem anyA_ok {h : AH} {needs done : AV} {i : Int} : ∀ {es : List AE} {x : Bool}, anyA h needs done i es = .ok x → (∀ e, e ∈ es → ∃ b, blockA h needs done i e = .ok b) ∧ (x = true ↔ ∃ e, e ∈ es ∧ blockA h needs done i e = .ok true)
  | [], x, hr => by
    have hr : R.ok false = .ok x := hr
    cases hr
    exact ⟨fun e he => (by cases he), by simp⟩
  | e :: es, x, hr => by
    have hr : ((blockA h needs done i e).bind fun b => (anyA h needs done i es).bind fun r => .ok (bor b r)) = .ok x := hr
    obtain ⟨b, h1, h2⟩ := bind_eq.1 hr
    obtain ⟨r, h3, h4⟩ := bind_eq.1 h2
    cases h4
    obtain ⟨g1, g2⟩ := anyA_ok h3
    refine ⟨fun e' he' => ?_, ?_⟩
    · rcases List.mem_cons.1 he' with rfl | he'
      · exact ⟨b, h1⟩
      · exact g1 e' he'
    · rw [bor_eq, Bool.or_eq_true, g2]
      constructor
      · rintro (rfl | ⟨e', h5, h6⟩)
        · exact ⟨e, by simp, h1⟩
        · exact ⟨e', by simp [h5], h6⟩
      · rintro ⟨e', h5, h6⟩
        rcases List.mem_cons.1 h5 with rfl | h5
        · rw [h1] at h6; cases h6; exact .inl rfl
        · exact .inr ⟨e', h5, h6⟩
theorem bornsOk_ok {c : Nat} : ∀ {es : List AE} {lo : Nat}, bornsOk c es lo = true → lo ≤ c ∧ (∀ e, e ∈ es → lo ≤ e.born ∧ e.born < c) ∧ (es.map (·.born)).Nodup
  | [], lo, h => by
    have h : Nat.ble lo c = true := h
    rw [natBle_eq] at h
    exact ⟨h, fun e he => (by cases he), by simp⟩
  | e :: es, lo, h => by
    have h : band (Nat.ble lo e.born) (bornsOk c es (e.born + 1)) = true := h
    rw [band_eq, Bool.and_eq_true, natBle_eq] at h
    obtain ⟨h1, h2⟩ := h
    obtain ⟨g1, g2, g3⟩ := bornsOk_ok h2
    refine ⟨by omega, fun e' he' => ?_, ?_⟩
    · rcases List.mem_cons.1 he' with rfl | he'
      · omega
      · have := g2 e' he'; omega
    · rw [List.map_cons, List.nodup_cons]
      refine ⟨fun hm => ?_, g3⟩
      obtain ⟨e', he', hb⟩ := List.mem_map.1 hm
      have := g2 e' he'
      omega
end Go.AX
/- The abstract executor: ranging over a map, entry after entry, in whatever order. -/
namespace Go.AX
open Go.ChangeMaps (setBlock)
open Go.RowKit
def IterOk (ρ : Rho) (w : World) (r : Nat) (es : List AE) (seen : Array Nat) : Prop :=
  (es = [] ∧ ∃ a s b, w.heap[r]? = some (.mapIter none a s b)) ∨
  ∃ bm xs c, w.heap[r]? = some (.mapIter (some bm) c seen c) ∧ w.heap[bm]? = some (.map xs c) ∧ bm ≠ r ∧ EntriesOk ρ es xs.toList ∧ (∀ x ∈ xs.toList, x.born < c) ∧ (xs.toList.map (·.born)).Nodup
def leftN (es : List AE) (seen : Array Nat) : Nat := (es.filter fun e => !seen.contains e.born).length
theorem leftN_push {es : List AE} {seen : Array Nat} {e : AE} (he : e ∈ es) (hn : seen.contains e.born = false) : leftN es (seen.push e.born) < leftN es seen := by
  unfold leftN
  have h1 : ∀ x : AE, (!(seen.push e.born).contains x.born) = (!(x.born == e.born) && !seen.contains x.born) := by
    intro x
    rw [Array.contains_push]
    cases seen.contains x.born <;> cases (x.born == e.born) <;> rfl
  rw [List.filter_congr (fun x _ => h1 x)]
  rw [← List.filter_filter]
  refine Nat.lt_of_le_of_ne (List.length_filter_le _ _) fun h => ?_
  rw [List.length_filter_eq_length_iff] at h
  have := h e (List.mem_filter.2 ⟨he, by rw [hn]; rfl⟩)
  simp at this
theorem run_next_nil {P : Program} (w : World) (ty : TypeId) (r a b : Nat) (s : Array Nat) (hr : w.heap[r]? = some (.mapIter none a s b)) :
    (Instr.next (.pointer (some ⟨r, 0, none⟩)) false ty).run P w = .ok (.tuple #[.bool false]) w := by
  simp only [Instr.next, getObj, Sem.run_bind, Sem.run, hr, Result.andThen]
  rfl
theorem setBlock_same {w : World} {r : Nat} {o o' : Obj} (h : w.heap[r]? = some o) : (setBlock w r o').heap[r]? = some o' := by
  have hlt := (Array.getElem?_eq_some_iff.1 h).1
  simp [setBlock, hlt]
theorem setBlock_other {w : World} {r k : Nat} {o' : Obj} (h : k ≠ r) : (setBlock w r o').heap[k]? = w.heap[k]? := by
  simp only [setBlock, Array.getElem?_setIfInBounds]
  rw [if_neg (fun e => h e.symm)]
/-- All but one block stand. -/
structure But (r : Nat) (w w' : World) : Prop where
  os : w'.os = w.os
  tape : w'.tape = w.tape
  output : w'.output = w.output
  size : w'.heap.size = w.heap.size
  block : ∀ k, k ≠ r → w'.heap[k]? = w.heap[k]?
theorem But.below {r : Nat} {w0 w w' : World} {B : Nat} (h : But r w w') (hb : Below B w0 w) (hB : B ≤ r) : Below B w0 w' :=
  ⟨h.os.trans hb.os, h.tape.trans hb.tape, h.output.trans hb.output, by rw [h.size]; exact hb.size, fun k hk => by rw [h.block k (by omega)]; exact hb.block k hk⟩
theorem iter_step {P : Program} {ρ : Rho} {w : World} {r : Nat} {es : List AE} {seen : Array Nat} (hi : IterOk ρ w r es seen) (ty : TypeId) :
    ((Instr.next (.pointer (some ⟨r, 0, none⟩)) false ty).run P w = .ok (.tuple #[.bool false]) w ∧ ∀ e ∈ es, seen.contains e.born = true) ∨
    ∃ e ∈ es, seen.contains e.born = false ∧ ∃ k v w', (Instr.next (.pointer (some ⟨r, 0, none⟩)) false ty).run P w = .ok (.tuple #[.bool true, k, v]) w' ∧ IterOk ρ w' r es (seen.push e.born) ∧ But r w w' ∧
      den ρ e.key = some k ∧ den ρ e.val = some v ∧ (Instr.entry (.pointer (some ⟨r, 0, none⟩))).run P w' = .ok (.tuple #[k, v]) w' := by
  rcases hi with ⟨rfl, a, s, b, h⟩ | ⟨bm, xs, c, h1, h2, h3, h4, h5, h6⟩
  · exact .inl ⟨run_next_nil w ty r a b s h, fun e he => (by cases he)⟩
  · rcases run_next_at (P := P) w ty r bm c c seen xs c h1 h2 h5 (Nat.le_refl _) with ⟨g1, g2⟩ | ⟨x, g1, w1, g2, g3⟩
    · refine .inl ⟨g2, fun e he => ?_⟩
      obtain ⟨i, hi, rfl⟩ := List.mem_iff_getElem.1 he
      have hi' : i < xs.toList.length := by rw [h4.1]; exact hi
      obtain ⟨_, _, q⟩ := h4.2 i es[i] xs.toList[i] (by simp [hi]) (List.getElem?_eq_getElem hi')
      have hL : leftOf xs seen = #[] := Array.eq_empty_of_size_eq_zero g1
      unfold leftOf at hL
      rw [Array.filter_eq_empty_iff] at hL
      have := hL xs.toList[i] (by rw [← Array.mem_toList_iff]; exact List.getElem_mem hi')
      rw [q]
      simpa using this
    · obtain ⟨m1, m2⟩ := mem_left g1
      obtain ⟨i, hi, hx⟩ := List.mem_iff_getElem.1 m1
      have hi' : i < es.length := by rw [← h4.1]; exact hi
      obtain ⟨q1, q2, q⟩ := h4.2 i es[i] x (by simp [hi']) (by rw [List.getElem?_eq_getElem hi, hx])
      have hw1 : ∀ k : Nat, w1.heap[k]? = w.heap[k]? := by rcases g2 with rfl | rfl <;> (intro k; rfl)
      have e1 : (setBlock w1 r (.mapIter (some bm) c (seen.push x.born) c)).heap[r]? = some (.mapIter (some bm) c (seen.push x.born) c) := setBlock_same (by rw [hw1]; exact h1)
      have e2 : (setBlock w1 r (.mapIter (some bm) c (seen.push x.born) c)).heap[bm]? = some (.map xs c) := by rw [setBlock_other h3, hw1]; exact h2
      refine .inr ⟨es[i], List.getElem_mem hi', by rw [q]; exact m2, x.key, x.val, _, g3, .inr ⟨bm, xs, c, by rw [q]; exact e1, e2, h3, h4, h5, h6⟩, ?_, q1, q2, run_entry_at _ r bm c seen xs c x e1 e2 m1 h6⟩
      rcases g2 with rfl | rfl <;> exact ⟨rfl, rfl, rfl, (Array.size_setIfInBounds ..), fun k hk => setBlock_other hk⟩
theorem wpOp_at {P : Program} {ops : Array Oper} {o : Oper} {n : Nat} {Qx : Exit → Act → World → Prop} {K : Act → World → Prop} {a : Act} {w : World} (d : Nat) (ho : ops[n]? = some o) (hd : o.dst = some d) (hg : o.guard = none) {v : Value} {w' : World} (hrun : (execOp a.eval o).run P w = .ok (.value v) w') (h : K (a.put (some d) v) w') : wpOp P ops Qx n K a w :=
  wpOp_plain ho hg hrun (by rw [hd]; exact h)
theorem run_assign {P : Program} {ev : Operand → Value} {w : World} {x : Operand} {v : Value} {dst : Option Tmp} {ty : TypeId} {pos : String} {after : Array Edge} {g : Option (Nat × Bool)} (h : ev x = v) : (execOp ev ⟨dst, .assign x, ty, pos, after, g⟩).run P w = .ok (.value v) w := by
  simp only [execOp]
  rw [h]
  rfl
theorem eq_of_born : ∀ {es : List AE} {x y : AE}, (es.map (·.born)).Nodup → x ∈ es → y ∈ es → x.born = y.born → x = y
  | [], _, _, _, hx, _, _ => by cases hx
  | e :: es, x, y, hn, hx, hy, h => by
    rw [List.map_cons, List.nodup_cons] at hn
    rcases List.mem_cons.1 hx with h1 | h1 <;> rcases List.mem_cons.1 hy with h2 | h2
    · rw [h1, h2]
    · exact absurd (List.mem_map.2 ⟨y, h2, by rw [← h, h1]⟩) hn.1
    · exact absurd (List.mem_map.2 ⟨x, h1, by rw [h, h2]⟩) hn.1
    · exact eq_of_born hn.2 h1 h2 h
theorem entriesA_nodup {h : AH} {m : AV} {es : List AE} (hr : entriesA h m = .ok es) : (es.map (·.born)).Nodup := by
  unfold entriesA at hr
  split at hr
  · cases hr; exact List.nodup_nil
  · obtain ⟨ob, u1, u2⟩ := bind_eq.1 hr
    obtain ⟨es', c, rfl, u3⟩ := onMapO_eq.1 u2
    obtain ⟨v1, v2⟩ := tst_eq.1 u3
    cases v2
    exact (bornsOk_ok v1).2.2
  · cases hr
theorem env_set {ρ : Rho} {E : CE} {tm : Q AV} {ts : Array Value} {t : Nat} {v : AV} {x : Value} (hE : E.ns = []) (ht : t < E.nt) (he : EnvOk ρ E [] tm ts) (hx : den ρ v = some x) : EnvOk ρ E [] (Q.set (pathOf t) (some v) tm) (ts.setIfInBounds t x) := by
  refine ⟨by simp [he.size], fun t' v' hm hv => ?_, by rw [hE]; rfl, fun k t' v' hk => by rw [hE] at hk; simp at hk⟩
  rw [Q.get_set] at hv
  split at hv
  · rename_i e
    have := pathOf_inj e
    subst this
    cases hv
    have hlt : t' < ts.size := by rw [he.size]; exact ht
    exact ⟨x, by simp [hlt], hx⟩
  · rename_i e
    obtain ⟨y, h1, h2⟩ := he.slot t' v' hm hv
    exact ⟨y, by rw [Array.getElem?_setIfInBounds, if_neg (fun q => e (by rw [q]))]; exact h1, h2⟩
theorem env_drop {ρ : Rho} {E : CE} {tm : Q AV} {ts : Array Value} {t : Nat} {x : Value} (hE : E.ns = []) (he : EnvOk ρ E [] tm ts) : EnvOk ρ E [] (Q.set (pathOf t) none tm) (ts.setIfInBounds t x) := by
  refine ⟨by simp [he.size], fun t' v' hm hv => ?_, by rw [hE]; rfl, fun k t' v' hk => by rw [hE] at hk; simp at hk⟩
  rw [Q.get_set] at hv
  split at hv
  · cases hv
  · rename_i e
    obtain ⟨y, h1, h2⟩ := he.slot t' v' hm hv
    exact ⟨y, by rw [Array.getElem?_setIfInBounds, if_neg (fun q => e (by rw [q]))]; exact h1, h2⟩
theorem T_drop {q t : Nat} {tm : Q AV} (h : q ≠ t) : T (pathOf q) [] (Q.set (pathOf t) none tm) = T (pathOf q) [] tm := by
  unfold T Q.at
  rw [Q.get_set, if_neg (pp_ne h)]
theorem readyA_same {call : CallH} {args : List AV} {h h' : AH} {v : AV} (hr : readyA call args h = .ok (v, h')) : h' = h := by
  unfold readyA at hr
  split at hr
  · obtain ⟨needs, r1, q1⟩ := bind_eq.1 hr
    obtain ⟨done, r2, q2⟩ := bind_eq.1 q1
    obtain ⟨pe, r3, q3⟩ := bind_eq.1 q2
    obtain ⟨bN, oN, rfl, q4⟩ := onPtr_eq.1 q3
    obtain ⟨mm, r4, q5⟩ := bind_eq.1 q4
    obtain ⟨es, r5, q6⟩ := bind_eq.1 q5
    obtain ⟨x, r6, q7⟩ := bind_eq.1 q6
    rw [bsel_eq] at q7
    split at q7
    · cases q7; rfl
    · obtain ⟨z, _, q8⟩ := bind_eq.1 q7
      obtain ⟨kk, n, _, q9⟩ := onInt_eq.1 q8
      obtain ⟨_, q10⟩ := tst_eq.1 q9
      cases q10; rfl
  · cases hr
end Go.AX
/- The abstract executor: code as a list of pieces; one operation put in another's place. -/
namespace Go.AX
noncomputable section
def runL (call : CallH) (l : List ACode) : St → CR := List.rec (motive := fun _ => St → CR) CR.norm (fun c _ ih s => (runA call c s).then ih) l
def flat (c : ACode) : List ACode := ACode.rec (motive := fun _ => List ACode) [.skip] (fun l => [.ops l]) (fun l => [.draw l]) (fun _ _ f g => app f g) (fun c x y _ _ => [.cond c x y]) (fun id x _ => [.block id x]) (fun x _ => [.loop x]) (fun id => [.exit id]) [.ret] (fun l => [.bad l]) c
theorem CR.then_assoc (r : CR) (f g : St → CR) : (r.then f).then g = r.then fun s => (f s).then g := by cases r <;> rfl
theorem CR.then_norm (r : CR) : r.then CR.norm = r := by cases r <;> rfl
theorem runL_app (call : CallH) : ∀ (l m : List ACode) (s : St), runL call (l ++ m) s = (runL call l s).then (runL call m)
  | [], m, s => rfl
  | c :: l, m, s => by
    show (runA call c s).then (runL call (l ++ m)) = ((runA call c s).then (runL call l)).then (runL call m)
    rw [CR.then_assoc]
    congr 1
    funext t
    exact runL_app call l m t
theorem runL_one (call : CallH) (c : ACode) (s : St) : runL call [c] s = runA call c s := CR.then_norm _
theorem runA_seq (call : CallH) (x y : ACode) (s : St) : runA call (.seq x y) s = (runA call x s).then (runA call y) := rfl
theorem runA_flat (call : CallH) : ∀ (c : ACode) (s : St), runA call c s = runL call (flat c) s
  | .seq x y, s => by
    rw [runA_seq, runA_flat call x, show flat (.seq x y) = app (flat x) (flat y) from rfl, app_eq, runL_app]
    congr 1
    funext t
    exact runA_flat call y t
  | .skip, s => (runL_one call _ s).symm
  | .ops _, s => (runL_one call _ s).symm
  | .draw _, s => (runL_one call _ s).symm
  | .cond _ _ _, s => (runL_one call _ s).symm
  | .block _ _, s => (runL_one call _ s).symm
  | .loop _, s => (runL_one call _ s).symm
  | .exit _, s => (runL_one call _ s).symm
  | .ret, s => (runL_one call _ s).symm
  | .bad _, s => (runL_one call _ s).symm
def isNorm (r : CR) : Bool := CR.rec (motive := fun _ => Bool) (fun _ => true) (fun _ _ => false) (fun _ => false) (fun _ => false) r
def stOf (r : CR) : St := CR.rec (motive := fun _ => St) (fun s => s) (fun _ s => s) (fun s => s) (fun _ => ⟨[], .nil, ⟨.nil, []⟩, []⟩) r
theorem norm_of {r : CR} (h : isNorm r = true) : r = .norm (stOf r) := by cases r <;> first | rfl | cases h
theorem opsK_app (call : CallH) : ∀ (as bs : List AOper) (l : List AV) (tm : Q AV) (h : AH) (df : List ADefer), opsK call (as ++ bs) l tm h df = (opsK call as l tm h df).then (St.run (opsK call bs))
  | [], bs, l, tm, h, df => rfl
  | o :: as, bs, l, tm, h, df => by
    have ih := opsK_app call as bs
    show operK call o (opsK call (as ++ bs)) l tm h df = (operK call o (opsK call as) l tm h df).then _
    have put : ∀ (d : Dst) v l tm h df, putK d (opsK call (as ++ bs)) v l tm h df = (putK d (opsK call as) v l tm h df).then (St.run (opsK call bs)) := by
      intro d v l tm h df
      cases d <;> exact ih _ _ _ _
    have hop : ∀ (d : Dst) (k : OpK) l tm h df, opK call d k (opsK call (as ++ bs)) l tm h df = (opK call d k (opsK call as) l tm h df).then (St.run (opsK call bs)) := by
      intro d k l tm h df
      cases k with
      | pur f => rw [opK_pur, opK_pur]; cases f l tm with
        | ok v => exact put _ _ _ _ _ _
        | err _ => rfl
      | rd f => rw [opK_rd, opK_rd]; cases f l tm h with
        | ok v => exact put _ _ _ _ _ _
        | err _ => rfl
      | alc f => rw [opK_alc, opK_alc]; cases f l tm h.nx with
        | ok v => exact put _ _ _ _ _ _
        | err _ => rfl
      | mem f => rw [opK_mem, opK_mem]; cases f call l tm h with
        | ok v => exact put _ _ _ _ _ _
        | err _ => rfl
    cases o with
    | op d k => exact hop d k l tm h df
    | grd g want d k =>
      show R.rec (motive := fun _ => CR) (fun v => bsel (wantB want v) (opK call d k (opsK call (as ++ bs)) l tm h df) (putK d (opsK call (as ++ bs)) .undef l tm h df)) CR.err (g l tm) = CR.then (R.rec (motive := fun _ => CR) (fun v => bsel (wantB want v) (opK call d k (opsK call as) l tm h df) (putK d (opsK call as) .undef l tm h df)) CR.err (g l tm)) _
      cases g l tm with
      | err _ => rfl
      | ok v =>
        show bsel (wantB want v) _ _ = CR.then (bsel (wantB want v) _ _) _
        cases wantB want v
        · exact put _ _ _ _ _ _
        · exact hop _ _ _ _ _ _
    | dfr f args =>
      show R.rec (motive := fun _ => CR) (fun vs => opsK call (as ++ bs) l tm h (⟨f, vs⟩ :: df)) CR.err (evalL args l tm) = CR.then (R.rec (motive := fun _ => CR) (fun vs => opsK call as l tm h (⟨f, vs⟩ :: df)) CR.err (evalL args l tm)) _
      cases evalL args l tm with
      | err _ => rfl
      | ok vs => exact ih _ _ _ _
/-- The state ahead of an operation of a piece. -/
def ahead (call : CallH) (A : List ACode) (pre : List AOper) (s : St) : CR := (runL call A s).then (St.run (opsK call pre))
/-- An operation of a piece whose result is known is put as a constant. -/
theorem swap_mem {call : CallH} {A B : List ACode} {pre post : List AOper} {d : Dst} {f : CallH → List AV → Q AV → AH → R (AV × AH)} {s : St} {v : AV} (hn : isNorm (ahead call A pre s) = true)
    (hv : f call (stOf (ahead call A pre s)).l (stOf (ahead call A pre s)).tm (stOf (ahead call A pre s)).hp = .ok (v, (stOf (ahead call A pre s)).hp)) :
    runL call (A ++ .ops (pre ++ .op d (.mem f) :: post) :: B) s = runL call (A ++ .ops (pre ++ .op d (.pur (C v)) :: post) :: B) s := by
  rw [runL_app, runL_app]
  unfold ahead at hn hv
  have key : ∀ t, runL call A s = .norm t → runL call (.ops (pre ++ .op d (.mem f) :: post) :: B) t = runL call (.ops (pre ++ .op d (.pur (C v)) :: post) :: B) t := by
    intro t ht
    rw [ht] at hn hv
    obtain ⟨l, tm, hp, df⟩ := t
    show (opsK call (pre ++ .op d (.mem f) :: post) l tm hp df).then (runL call B) = (opsK call (pre ++ .op d (.pur (C v)) :: post) l tm hp df).then (runL call B)
    rw [opsK_app, opsK_app]
    have hn : isNorm (opsK call pre l tm hp df) = true := hn
    have hv : f call (stOf (opsK call pre l tm hp df)).l (stOf (opsK call pre l tm hp df)).tm (stOf (opsK call pre l tm hp df)).hp = .ok (v, (stOf (opsK call pre l tm hp df)).hp) := hv
    cases hc : opsK call pre l tm hp df with
    | norm u =>
      rw [hc] at hv
      obtain ⟨l2, tm2, hp2, df2⟩ := u
      have hv : f call l2 tm2 hp2 = .ok (v, hp2) := hv
      show (opK call d (.mem f) (opsK call post) l2 tm2 hp2 df2).then (runL call B) = (opK call d (.pur (C v)) (opsK call post) l2 tm2 hp2 df2).then (runL call B)
      rw [opK_mem, hv, opK_pur]
      rfl
    | exit i u => rw [hc] at hn; cases hn
    | ret u => rw [hc] at hn; cases hn
    | err u => rw [hc] at hn; cases hn
  cases ht : runL call A s with
  | norm t => exact key t ht
  | exit i t => rfl
  | ret t => rfl
  | err t => rfl
theorem swap_pur {call : CallH} {A B : List ACode} {pre post : List AOper} {d : Dst} {f : Opd} {s : St} {v : AV} (hn : isNorm (ahead call A pre s) = true)
    (hv : f (stOf (ahead call A pre s)).l (stOf (ahead call A pre s)).tm = .ok v) :
    runL call (A ++ .ops (pre ++ .op d (.pur f) :: post) :: B) s = runL call (A ++ .ops (pre ++ .op d (.pur (C v)) :: post) :: B) s := by
  rw [runL_app, runL_app]
  unfold ahead at hn hv
  have key : ∀ t, runL call A s = .norm t → runL call (.ops (pre ++ .op d (.pur f) :: post) :: B) t = runL call (.ops (pre ++ .op d (.pur (C v)) :: post) :: B) t := by
    intro t ht
    rw [ht] at hn hv
    obtain ⟨l, tm, hp, df⟩ := t
    show (opsK call (pre ++ .op d (.pur f) :: post) l tm hp df).then (runL call B) = (opsK call (pre ++ .op d (.pur (C v)) :: post) l tm hp df).then (runL call B)
    rw [opsK_app, opsK_app]
    have hn : isNorm (opsK call pre l tm hp df) = true := hn
    have hv : f (stOf (opsK call pre l tm hp df)).l (stOf (opsK call pre l tm hp df)).tm = .ok v := hv
    cases hc : opsK call pre l tm hp df with
    | norm u =>
      rw [hc] at hv
      obtain ⟨l2, tm2, hp2, df2⟩ := u
      have hv : f l2 tm2 = .ok v := hv
      show (opK call d (.pur f) (opsK call post) l2 tm2 hp2 df2).then (runL call B) = (opK call d (.pur (C v)) (opsK call post) l2 tm2 hp2 df2).then (runL call B)
      rw [opK_pur, hv, opK_pur]
      rfl
    | exit i u => rw [hc] at hn; cases hn
    | ret u => rw [hc] at hn; cases hn
    | err u => rw [hc] at hn; cases hn
  cases ht : runL call A s with
  | norm t => exact key t ht
  | exit i t => rfl
  | ret t => rfl
  | err t => rfl
end
end Go.AX
/- The abstract executor: a number brought below a bound. -/
namespace Go.AX
noncomputable section
open D
def numC : AFn := ⟨(nat_lit 15), (.seq (.ops [.op (.slot [k4]) (.pur (C (.int .i64 (.ofNat (nat_lit 0)))))]) (.seq (.ops [.op .loc (.pur (T [])), .op .loc (.pur (T [k1])), .op .loc (.pur (b2 (intV remI) (L (nat_lit 1)) (L (nat_lit 0)))), .op (.slot [k1,k1]) (.pur (L (nat_lit 0)))]) (.seq (.seq (.ops [.op .loc (.pur (T [k1,k1])), .op .loc (.pur (b2 (intV ltI) (L (nat_lit 0)) (C (.int .i64 (.ofNat (nat_lit 0))))))]) (.cond (L (nat_lit 0)) (.ops [.op .loc (.pur (T [k1,k1])), .op .loc (.pur (T [k1])), .op .loc (.pur (b2 (intV addI) (L (nat_lit 1)) (L (nat_lit 0)))), .op (.slot [k1,k1]) (.pur (L (nat_lit 0)))]) .skip)) (.seq (.ops [.op .loc (.pur (T [k1,k1])), .op (.slot [k4]) (.pur (L (nat_lit 0)))]) .ret)))), [.tmp (T [k4])]⟩
def numI (n : Int) (m : Nat) : Int := Int.rec (motive := fun _ => Int) Int.ofNat (fun q => wrap64' (Int.subNatNat m (q + 1))) (n.tmod (.ofNat m))
theorem numI_lt (n : Int) {m : Nat} (h0 : 0 < m) (h : m ≤ 2147483648) : ∃ q, numI n m = .ofNat q ∧ q < m := by
  unfold numI
  have h1 : (n.tmod (.ofNat m)).natAbs < m := by
    rw [Int.natAbs_tmod]
    exact Nat.mod_lt _ h0
  generalize n.tmod (.ofNat m) = r at h1
  cases r with
  | ofNat q => exact ⟨q, rfl, by simpa using h1⟩
  | negSucc q =>
    have h1 : q + 1 < m := by simpa using h1
    refine ⟨m - (q + 1), ?_, by omega⟩
    show wrap64' (Int.subNatNat m (q + 1)) = _
    rw [Int.subNatNat_of_le (by omega)]
    unfold wrap64'
    have : fits64 (Int.ofNat (m - (q + 1))) = true := by
      show Nat.blt _ _ = true
      rw [Nat.blt_eq]; omega
    show Bool.rec (motive := fun _ => Int) _ _ (fits64 (Int.ofNat (m - (q + 1)))) = _
    rw [this]
    rfl
theorem num_fn (call callD : CallH) (n : Int) (m : Nat) (h : AH) : runFn call callD numC [.int .i64 n, .int .i64 (.ofNat (m + 1))] h = .ok (.int .i64 (numI n (m + 1)), h) := by
  show endFn callD numC.res (runA call numC.code ⟨[], argsTm [.int .i64 n, .int .i64 (.ofNat (m + 1))] 0 .nil, h, []⟩) = _
  rw [runA_flat]
  rw [show flat numC.code = [.ops [.op (.slot [k4]) (.pur (C (.int .i64 (.ofNat (nat_lit 0)))))]] ++ .ops ([.op .loc (.pur (T [])), .op .loc (.pur (T [k1]))] ++ .op .loc (.pur (b2 (intV remI) (L (nat_lit 1)) (L (nat_lit 0)))) :: [.op (.slot [k1,k1]) (.pur (L (nat_lit 0)))]) :: (flat numC.code).drop 2 from rfl]
  rw [swap_pur (v := .int .i64 (n.tmod (.ofNat (m + 1)))) rfl rfl]
  unfold numI
  generalize n.tmod (.ofNat (m + 1)) = r
  cases r with
  | ofNat q => rfl
  | negSucc q => rfl
/-- The contract's function. -/
def numX : CallH → List AV → AH → R (AV × AH) := fun _ args h => match args with
  | [v, u] => (onInt 430 (fun k n => tst 431 (kindEq k .i64) (onInt 432 (fun k' m => tst 433 (kindEq k' .i64) (onNat 434 (fun m => Nat.rec (motive := fun _ => R (AV × AH)) (.err [435]) (fun m' _ => .ok (.int .i64 (numI n (m' + 1)), h)) m) m)) u)) v)
  | _ => .err [436]
theorem numX_eq {ih : CallH} {args : List AV} {h h' : AH} {v : AV} (hr : numX ih args h = .ok (v, h')) : ∃ n m, args = [.int .i64 n, .int .i64 (.ofNat (m + 1))] ∧ v = .int .i64 (numI n (m + 1)) ∧ h' = h := by
  unfold numX at hr
  split at hr
  · obtain ⟨k, n, rfl, h1⟩ := onInt_eq.1 hr
    obtain ⟨h2, h3⟩ := tst_eq.1 h1
    obtain rfl := kindEq_eq h2
    obtain ⟨k', m, rfl, h4⟩ := onInt_eq.1 h3
    obtain ⟨h5, h6⟩ := tst_eq.1 h4
    obtain rfl := kindEq_eq h5
    obtain ⟨m', rfl, h7⟩ := onNat_eq.1 h6
    cases m' with
    | zero => cases h7
    | succ m' => cases h7; exact ⟨n, m', rfl, rfl, rfl⟩
  · cases hr
theorem runDefers_none {_ih : CallH} : ∀ df h h', runDefers noCall df h = .ok h' → num h.nx ≤ num h'.nx := fun df h h' hd => by rw [(noDefers hd).2]; exact Nat.le_refl _
theorem defOk_none {P : Program} : DefOk P noCall := fun f args h v h' hr => by cases hr
/-- What an Ext's clause asks of one function. -/
def OneOk (P : Program) (X : Ext) (f : FuncId) (g : CallH → List AV → AH → R (AV × AH)) : Prop := ∀ ih, CallOk P X ih → ∀ args h v h', g ih args h = .ok (v, h') → num h.nx ≤ num h'.nx ∧
  ∀ ρ w xs, Mem P ρ h w → Free ρ h h' → denL ρ args = some xs → ∀ (o : Oper) (a : Act) (next : Act → World → Prop) (Q : Exit → Act → World → Prop),
    (∀ ρ' w' x, Step ρ h w ρ' h' w' → Mem P ρ' h' w' → den ρ' v = some x → next (a.put o.dst x) w') → o.upon P a next Q ((callFunc f xs.toArray).run P w)
theorem oneOk_calls {P : Program} {X : Ext} {f : FuncId} {fn : Func} {c : Code} {g : CallH → List AV → AH → R (AV × AH)} (hf : P.funcs[f]? = some fn) (hname : (fn.name == "runtime.NumGoroutine") = false) (hb : fn.body = some c)
    (h : ∀ ih, CallOk P X ih → ∀ args h v h', g ih args h = .ok (v, h') → num h.nx ≤ num h'.nx ∧ ∀ ρ w xs, Mem P ρ h w → Free ρ h h' → denL ρ args = some xs → Calls P f xs.toArray w (Good P ρ h w v h')) : OneOk P X f g := by
  intro ih hc args hp v h' hr
  obtain ⟨h1, h2⟩ := h ih hc args hp v h' hr
  refine ⟨h1, fun ρ w xs m hfr hx o a next Q hn => ?_⟩
  rw [callFunc_run hf hname hb, Oper.upon_enter]
  refine Calls.mono (h2 ρ w xs m hfr hx) fun e w' hg => ?_
  obtain ⟨ρ', x, rfl, hs, hm, hd⟩ := hg
  exact hn ρ' w' x hs hm hd
theorem num_ok {P : Program} {X : Ext} {f : FuncId} {fn : Func} {c : Code} (hf : P.funcs[f]? = some fn) (hname : (fn.name == "runtime.NumGoroutine") = false) (hb : fn.body = some c) (hfn : FnOk P f numC) : OneOk P X f numX :=
  oneOk_calls hf hname hb fun ih hc args _ _ h' hr => by
    obtain ⟨n, m, rfl, rfl, rfl⟩ := numX_eq hr
    exact ⟨Nat.le_refl _, fun ρ w xs mm hfr hx => (fn_calls hc defOk_none hfn (num_fn ih noCall n m h') mm hfr hx).2⟩
end
end Go.AX
/- The abstract executor: a call without arguments that answers true from the sentinels alone: its garbage is let go. -/
namespace Go.AX
open Go.RowKit
noncomputable section
def isTrueR (r : R (AV × AH)) : Bool := R.rec (motive := fun _ => Bool) (fun p => AV.rec (motive_1 := fun _ => Bool) (motive_2 := fun _ => Unit) (fun b => b) (fun _ _ => false) (fun _ _ => false) (fun _ _ => false) false (fun _ _ => false) false (fun _ _ _ _ => false) (fun _ _ _ _ => false) false (fun _ => false) (fun _ _ _ _ _ => false) false (fun _ _ _ => false) false (fun _ _ => false) (fun _ _ => false) (fun _ _ => false) (fun _ _ => false) (fun _ _ => false) () (fun _ _ _ _ => ()) p.1) (fun _ => false) r
theorem isTrueR_eq {r : R (AV × AH)} (h : isTrueR r = true) : ∃ h', r = .ok (.bool true, h') := by
  cases r with
  | err l => cases h
  | ok p =>
    obtain ⟨v, h'⟩ := p
    cases v with
    | bool b => have h : b = true := h; subst h; exact ⟨h', rfl⟩
    | _ => cases h
def isGlobBox (ev pt : TypeId) (id : Id) (o : AO) : Bool := match o with
  | .box e true [.iface t (.ptr b 0)] => band (Nat.beq e ev) (band (Nat.beq t pt) (idEq b id))
  | _ => false
def isStrBox (et : TypeId) (l v : Nat) (o : AO) : Bool := match o with
  | .box e true [.str m u] => band (Nat.beq e et) (band (Nat.beq m l) (Nat.beq u v))
  | _ => false
def onSome (f : AO → Bool) (x : Option AO) : Bool := Option.rec (motive := fun _ => Bool) false f x
theorem onSome_eq {f : AO → Bool} {x : Option AO} (h : onSome f x = true) : ∃ o, x = some o ∧ f o = true := by
  cases x with
  | none => cases h
  | some o => exact ⟨o, rfl, h⟩
def sentsIn (ev pt et base : Nat) (s : Nat → Nat × Nat) (h : AH) (n : Nat) : Bool := Nat.rec (motive := fun _ => Bool) true (fun g ih => band (band (onSome (isGlobBox ev pt (pathOf (base + g))) (Q.get (pathOf g) h.tr)) (onSome (isStrBox et (s g).1 (s g).2) (Q.get (pathOf (base + g)) h.tr))) ih) n
theorem isGlobBox_eq {ev pt : TypeId} {id : Id} {o : AO} (h : isGlobBox ev pt id o = true) : o = .box ev true [.iface pt (.ptr id 0)] := by
  unfold isGlobBox at h
  split at h
  · rw [band_eq, band_eq, Bool.and_eq_true, Bool.and_eq_true, natBeq_eq, natBeq_eq] at h
    obtain ⟨h1, h2, h3⟩ := h
    have h3 := idEq_eq h3
    subst h1; subst h2; subst h3
    rfl
  · cases h
theorem isStrBox_eq {et : TypeId} {l v : Nat} {o : AO} (h : isStrBox et l v o = true) : o = .box et true [.str l v] := by
  unfold isStrBox at h
  split at h
  · rw [band_eq, band_eq, Bool.and_eq_true, Bool.and_eq_true, natBeq_eq, natBeq_eq, natBeq_eq] at h
    obtain ⟨rfl, rfl, rfl⟩ := h
    rfl
  · cases h
theorem sentsIn_eq {ev pt et base : Nat} {s : Nat → Nat × Nat} {h : AH} : ∀ {n : Nat}, sentsIn ev pt et base s h n = true → ∀ g, g < n → Q.get (pathOf g) h.tr = some (.box ev true [.iface pt (.ptr (pathOf (base + g)) 0)]) ∧ Q.get (pathOf (base + g)) h.tr = some (.box et true [.str (s g).1 (s g).2])
  | 0, _, g, hg => by omega
  | n + 1, hs, g, hg => by
    have hs : band (band (onSome (isGlobBox ev pt (pathOf (base + n))) (Q.get (pathOf n) h.tr)) (onSome (isStrBox et (s n).1 (s n).2) (Q.get (pathOf (base + n)) h.tr))) (sentsIn ev pt et base s h n) = true := hs
    rw [band_eq, band_eq, Bool.and_eq_true, Bool.and_eq_true] at hs
    obtain ⟨⟨h1, h2⟩, h3⟩ := hs
    by_cases e : g = n
    · subst e
      obtain ⟨o, q1, q2⟩ := onSome_eq h1
      obtain ⟨o', q3, q4⟩ := onSome_eq h2
      rw [q1, q3, isGlobBox_eq q2, isStrBox_eq q4]
      exact ⟨rfl, rfl⟩
    · exact sentsIn_eq h3 g (by omega)
theorem h00_get {ev pt et base n : Nat} {s : Nat → Nat × Nat} {p : Id} {ob : AO} (hp : Q.get p (h00 ev pt et base n s).tr = some ob) : ∃ g, g < n ∧ ((p = pathOf g ∧ ob = .box ev true [.iface pt (.ptr (pathOf (base + g)) 0)]) ∨ (p = pathOf (base + g) ∧ ob = .box et true [.str (s g).1 (s g).2])) := by
  rcases sents_get _ _ p ob hp with h1 | ⟨g, v, h1, h2⟩
  · have h1 : Q.get p (.nil : Q AO) = some ob := h1
    simp at h1
  · obtain ⟨i, hi, he⟩ := List.mem_map.1 h1
    cases he
    exact ⟨_, by simpa using hi, h2⟩
def rhoCut (N : Nat) (ρ : Rho) : Rho := fun p => if num p < N then ρ p else none
theorem mem_cut {P : Program} {ρ : Rho} {h : AH} {w : World} {ev pt et n : Nat} {s : Nat → Nat × Nat} (m : Mem P ρ h w) (hs : sentsIn ev pt et P.globals.size s h n = true) :
    Mem P (rhoCut (P.globals.size + n) ρ) (h00 ev pt et P.globals.size n s) w ∧ (∀ cb, ¬ Wr (rhoCut (P.globals.size + n) ρ) (h00 ev pt et P.globals.size n s) cb) ∧ ∀ h', Free (rhoCut (P.globals.size + n) ρ) (h00 ev pt et P.globals.size n s) h' := by
  have hin := sentsIn_eq hs
  have sub : ∀ p ob, Q.get p (h00 ev pt et P.globals.size n s).tr = some ob → Q.get p h.tr = some ob := by
    intro p ob hp
    obtain ⟨g, hg, ⟨rfl, rfl⟩ | ⟨rfl, rfl⟩⟩ := h00_get hp
    · exact (hin g hg).1
    · exact (hin g hg).2
  have lt : ∀ p ob, Q.get p (h00 ev pt et P.globals.size n s).tr = some ob → num p < P.globals.size + n := by
    intro p ob hp
    obtain ⟨g, hg, ⟨rfl, rfl⟩ | ⟨rfl, rfl⟩⟩ := h00_get hp <;> (rw [num_pathOf]; omega)
  have cut : ∀ p l, rhoCut (P.globals.size + n) ρ p = some l → ρ p = some l := by
    intro p l hl
    unfold rhoCut at hl
    split at hl
    · exact hl
    · cases hl
  have keep : ∀ p, num p < P.globals.size + n → rhoCut (P.globals.size + n) ρ p = ρ p := fun p hp => by unfold rhoCut; rw [if_pos hp]
  refine ⟨⟨fun p ob l hp hl => ?_, fun p p' ob ob' l l' hp hp' hl hl' hne => m.apart p p' ob ob' l l' (sub p ob hp) (sub p' ob' hp') (cut p l hl) (cut p' l' hl') hne, fun g hg => ?_, fun p ob hp => ?_⟩, fun cb ⟨p, ob, l, hp, hro, _, _⟩ => ?_, fun h' p h1 h2 => ?_⟩
  · have ho := m.obj p ob l (sub p ob hp) (cut p l hl)
    obtain ⟨g, hg, ⟨rfl, rfl⟩ | ⟨rfl, rfl⟩⟩ := h00_get hp
    · obtain ⟨cs, e', z, h1, h2, h3, h4⟩ := ho
      refine ⟨cs, e', z, h1, h2, h3, fun i v hv => ?_⟩
      obtain ⟨g1, g2, x, g3, g4⟩ := h4 i v hv
      refine ⟨g1, g2, x, g3, ?_⟩
      cases i with
      | zero =>
        simp at hv; subst hv
        simp only [den] at g4 ⊢
        rw [keep _ (by rw [num_pathOf]; omega)]
        exact g4
      | succ i => simp at hv
    · obtain ⟨cs, e', z, h1, h2, h3, h4⟩ := ho
      refine ⟨cs, e', z, h1, h2, h3, fun i v hv => ?_⟩
      obtain ⟨g1, g2, x, g3, g4⟩ := h4 i v hv
      refine ⟨g1, g2, x, g3, ?_⟩
      cases i with
      | zero => simp at hv; subst hv; simpa [den] using g4
      | succ i => simp at hv
  · obtain ⟨c, hc⟩ := m.glob g hg
    exact ⟨c, by rw [keep _ (by rw [num_pathOf]; omega)]; exact hc⟩
  · unfold h00
    rw [sents_nx]
    show num p < num (pathOf _)
    rw [num_pathOf]
    exact lt p ob hp
  · obtain ⟨g, hg, ⟨rfl, rfl⟩ | ⟨rfl, rfl⟩⟩ := h00_get hp <;> cases hro
  · unfold h00 at h1
    rw [sents_nx] at h1
    have h1 : num (pathOf (P.globals.size + n)) ≤ num p := h1
    rw [num_pathOf] at h1
    unfold rhoCut
    rw [if_neg (by omega)]
/-- A function that answers true, the sentinels lying in memory. -/
def closedX (ev pt et base n : Nat) (s : Nat → Nat × Nat) : CallH → List AV → AH → R (AV × AH) := fun _ args h => match args with
  | [] => tst 440 (sentsIn ev pt et base s h n) (.ok (.bool true, h))
  | _ => .err [441]
theorem closed_ok {P : Program} {X X1 : Ext} {tab : FuncId → Option AFn} {f : FuncId} {fn : Func} {c : Code} {ev pt et n k : Nat} {s : Nat → Nat × Nat} (hf : P.funcs[f]? = some fn) (hname : (fn.name == "runtime.NumGoroutine") = false) (hb : fn.body = some c)
    (hX1 : ExtOk P X1) (ht : ∀ f a, tab f = some a → FnOk P f a) (hXf : X1 f = none) (hr : isTrueR (callN tab X1 k f [] (h00 ev pt et P.globals.size n s)) = true) : OneOk P X f (closedX ev pt et P.globals.size n s) :=
  oneOk_calls hf hname hb fun _ _ args h v h' hc => by
    unfold closedX at hc
    split at hc
    · obtain ⟨h1, h2⟩ := tst_eq.1 hc
      cases h2
      refine ⟨Nat.le_refl _, fun ρ w xs m _ hx => ?_⟩
      obtain ⟨hF, hr'⟩ := isTrueR_eq hr
      obtain ⟨m1, m2, m3⟩ := mem_cut m h1
      have hx : some [] = some xs := hx
      cases hx
      refine Calls.mono (calls_of_run hX1 ht hXf hr' m1 (m3 hF) (xs := []) rfl) fun e w' hg => ?_
      obtain ⟨he, hb⟩ := good_true m2 hg
      obtain ⟨m', hs⟩ := m.grown hb.os hb.tape hb.output hb.size hb.block
      exact ⟨ρ, .bool true, he, hs, m', den_bool ρ true⟩
    · cases hc
end
end Go.AX
/- The abstract executor: one operation of a piece, by its place, put as a constant. -/
namespace Go.AX
noncomputable section
def putAt (i j : Nat) (o : List AOper) (d : Dst) (v : AV) (l : List ACode) : List ACode := l.take i ++ .ops (o.take j ++ .op d (.pur (C v)) :: o.drop (j + 1)) :: l.drop (i + 1)
theorem split_at {α : Type} {l : List α} {i : Nat} {x : α} (h : l[i]? = some x) : l = l.take i ++ x :: l.drop (i + 1) := by
  obtain ⟨hlt, rfl⟩ := List.getElem?_eq_some_iff.1 h
  rw [← List.drop_eq_getElem_cons hlt, List.take_append_drop]
theorem swap_at {call : CallH} {l : List ACode} {s : St} (i j : Nat) {o : List AOper} {d : Dst} {f : CallH → List AV → Q AV → AH → R (AV × AH)} {v : AV} (h1 : l[i]? = some (.ops o)) (h2 : o[j]? = some (.op d (.mem f)))
    (hn : isNorm (ahead call (l.take i) (o.take j) s) = true) (hv : f call (stOf (ahead call (l.take i) (o.take j) s)).l (stOf (ahead call (l.take i) (o.take j) s)).tm (stOf (ahead call (l.take i) (o.take j) s)).hp = .ok (v, (stOf (ahead call (l.take i) (o.take j) s)).hp)) :
    runL call l s = runL call (putAt i j o d v l) s := by
  have e1 := split_at h1
  have e2 := split_at h2
  unfold putAt
  rw [← swap_mem hn hv, ← e2, ← e1]
theorem runFn_flat {call callD : CallH} {a : AFn} {args : List AV} {h : AH} (hn : args.length ≤ a.nt) : runFn call callD a args h = endFn callD a.res (runL call (flat a.code) ⟨[], argsTm args 0 .nil, h, []⟩) := by
  unfold runFn
  rw [runA_flat]
  rw [show Nat.ble (len args) a.nt = true by rw [natBle_eq, len_eq]; exact hn]
  rfl
end
end Go.AX
/- What a statement asks behind a call that turns nothing below. -/
namespace Go.AX
open Go.ChangeShapes Go.WideShapes Go.ChangeAt Go.RowKit
theorem post_of_below {H : Type} {enc : TypeId × Value → H} {P : Program} {f : Func} {s : ChangeSpec} {apart fresh handsOn : Bool} {W W' : World} {args : Array Value} {v : Value} {ds gs : List (DataW H)} {before pa pv : List MemPlace}
    (hW : DataW.Whole enc P f.params.toList s.vars apart W args.toList ds gs before)
    (hres : ∀ (b : Nat) (sp : Nat → Bool) (hd : Bool), DataW.TrodAll enc P W' b sp hd f.resultTypes.toList (v.resultList f.resultTypes.size) (s.fn H (ds ++ gs)).results [])
    (hargs : ∀ sp : Nat → Bool, (∀ p ∈ before, sp p.block = true) → DataW.TrodAll enc P W' 0 sp true f.params.toList args.toList (s.fn H (ds ++ gs)).args pa)
    (hvars : ∀ sp : Nat → Bool, (∀ p ∈ before, sp p.block = true) → DataW.TrodVars enc P W' sp s.vars (s.fn H (ds ++ gs)).vars pv)
    (hps : before = pa ++ pv) (hb : Below W.heap.size W W') :
    s.post enc P f apart fresh handsOn false W args v W' := by
  have hold : ∀ p ∈ before, (fun b => decide (b < W.heap.size)) p.block = true := fun p hp => by simpa using hW.lt p hp
  refine ⟨ds, gs, before, [], pa, pv, hW, hres _ _ _, hargs _ hold, hvars _ hold, World.keptBut_mono (fun p hp => ⟨hp, ?_⟩) (hb.frame (· ∈ before)), fun h => by cases h⟩
  rw [hps, List.mem_append] at hp
  exact Or.inr hp
/-- The run of a statement, from the sentinels alone. -/
theorem calls_true {P : Program} {X : Ext} {call : CallH} (hc : CallOk P X call) {f : FuncId} {a : AFn} (hfn : FnOk P f a) {laid : List (String × DataW Unit)} {n : Nat} {ev pt et : TypeId} {idx : Nat → Nat} {txt : Nat → List UInt8} (hs : SentsAre P laid n pt idx txt) {args : List AV} {xs : List Value} (hx : ∀ ρ, denL ρ args = some xs)
    (hr : isTrueR (runFn call noCall a args (h00 ev pt et P.globals.size n fun g => ((txt g).length, encL (txt g) 0))) = true) {W : World} (hl : laidMet P laid W) : Calls P f xs.toArray W fun e w' => e = .returned (.bool true) ∧ Below W.heap.size W w' := by
  obtain ⟨h', hr'⟩ := isTrueR_eq hr
  obtain ⟨b, o, h1, h2⟩ := laidOk_of hs hl
  obtain ⟨m, hw⟩ := mem_laid (ev := ev) (et := et) h1 h2
  exact Calls.mono (fn_calls hc defOk_none hfn hr' m (free_laid h') (hx _)).2 fun e w' hg => good_true hw hg
theorem denL_ints (ρ : Rho) : ∀ l : List Int, denL ρ (l.map fun n => AV.int .i64 n) = some (l.map fun n => Value.int .i64 n)
  | [] => rfl
  | _ :: l => denL_cons_eq.2 ⟨_, _, den_int _ _ _, denL_ints ρ l, rfl⟩
end Go.AX
/- A whole number that is only handed about, and written in decimal. -/
namespace Go.AX
open Go.RowKit
theorem tab_block {P : Program} {W : World} {laid : List (String × DataW Unit)} {i : Nat} {name : String} {k : IntKind} {zs : List Int} {g : Nat} {tt te : TypeId} {n : Nat} (hl : laidMet P laid W) (hi : laid[i]? = some (name, Lib.tabData k zs))
    (hg : P.globalNamed name = some g) (hty : (P.globals[g]?).map (·.type) = some tt) (ht : P.underlying tt = some (.array n te)) (he : P.underlying te = some (.int k)) (hce : P.cellsOf te = 1) (hct : P.cellsOf tt = n) (h0 : 0 < zs.length) :
    ∃ t, W.heap[g]? = some (.cells (zs.map fun z => Value.int k z).toArray t (0, 0)) := by
  obtain ⟨ps, hv, hnd, hrows⟩ := hl
  obtain ⟨segs, rfl, hseg⟩ := laid_segs hv
  obtain ⟨g', t, cs, fuel, p, e1, e2, e3, e4, e5⟩ := hseg _ _ _ hi
  rw [hg] at e1
  cases e1
  rw [hty] at e2
  cases e2
  have hcs := Lib.cells_of_tab ht he hce hct e4
  have hblk : ∃ t z, W.heap[g]? = some (.cells cs t z) := by
    unfold World.var? at e3
    rw [hg] at e3
    simp only [Option.bind_some] at e3
    split at e3
    · rename_i c t z hb; cases e3; exact ⟨t, z, hb⟩
    · cases e3
  obtain ⟨t, z, hb⟩ := hblk
  have hsz : 0 < cs.size := by
    have := congrArg List.length hcs
    simp at this
    omega
  have hm : MemPlace.cell g 0 ∈ segs.flatten := List.mem_flatten.2 ⟨_, List.mem_of_getElem? e5, List.mem_append_left _ (by simp [MemPlace.row]; exact hsz)⟩
  obtain ⟨c3, t3, hb3⟩ := (hrows g 0 hm).1
  rw [hb] at hb3
  cases hb3
  have hcs' : cs = (zs.map fun z => Value.int k z).toArray := Array.toList_inj.1 (by rw [hcs])
  exact ⟨t, by rw [hb, hcs']⟩
noncomputable def tabO (tt : TypeId) (zs : List Int) : AO := .box tt true (zs.map fun z => AV.int .u64 z)
noncomputable def h02 (ev pt et base n : Nat) (s : Nat → Nat × Nat) (gt : Nat) (tt : TypeId) (zs : List Int) : AH := ⟨Q.set (pathOf gt) (some (tabO tt zs)) (h00 ev pt et base n s).tr, pathOf (base + n + 1)⟩
def rhoSym (N : Nat) (k : Int) (ρ : Rho) : Rho := fun p => if num p = N then some ⟨encInt k, 0, 0⟩ else ρ p
theorem mem_sym {P : Program} {W : World} {n : Nat} {ev pt et : TypeId} {b o : Nat → Nat} {s : Nat → Nat × Nat} (h : LaidOk P W n pt b o s) (hfar : ∀ g g', g < n → g' < n → b g ≠ g') {gt : Nat} {tt : TypeId} {zs : List Int} {t : TypeId}
    (htab : W.heap[gt]? = some (.cells (zs.map fun z => Value.int .u64 z).toArray t (0, 0))) (hgt : n ≤ gt) (hgl : gt < P.globals.size) (k : Int) :
    Mem P (rhoSym (P.globals.size + n) k (rho0 P.globals.size n b o)) (h02 ev pt et P.globals.size n s gt tt zs) W ∧ (∀ cb, ¬ Wr (rhoSym (P.globals.size + n) k (rho0 P.globals.size n b o)) (h02 ev pt et P.globals.size n s gt tt zs) cb) ∧
    ∀ h', Free (rhoSym (P.globals.size + n) k (rho0 P.globals.size n b o)) (h02 ev pt et P.globals.size n s gt tt zs) h' := by
  obtain ⟨m, hw⟩ := mem_laid (ev := ev) (et := et) h hfar
  have hle : (rho0 P.globals.size n b o).le (rhoSym (P.globals.size + n) k (rho0 P.globals.size n b o)) := by
    intro p l hp
    unfold rhoSym
    rw [if_neg]
    · exact hp
    · intro e
      unfold rho0 at hp
      rw [if_neg (by omega), if_neg (by omega)] at hp
      cases hp
  have hlt : ∀ p ob, Q.get p (h00 ev pt et P.globals.size n s).tr = some ob → num p < P.globals.size + n := by
    intro p ob hp
    obtain ⟨g, hg, ⟨rfl, rfl⟩ | ⟨rfl, rfl⟩⟩ := h00_get hp <;> (rw [num_pathOf]; have := h.le; omega)
  have same : ∀ p ob, Q.get p (h00 ev pt et P.globals.size n s).tr = some ob → rhoSym (P.globals.size + n) k (rho0 P.globals.size n b o) p = rho0 P.globals.size n b o p := by
    intro p ob hp
    have := hlt p ob hp
    unfold rhoSym
    rw [if_neg (by omega)]
  have ht : rhoSym (P.globals.size + n) k (rho0 P.globals.size n b o) (pathOf gt) = some ⟨gt, 0, 0⟩ := by
    unfold rhoSym rho0
    rw [num_pathOf, if_neg (by omega), if_pos (by omega)]
  have get : ∀ p ob, Q.get p (h02 ev pt et P.globals.size n s gt tt zs).tr = some ob → (p = pathOf gt ∧ ob = tabO tt zs) ∨ (p ≠ pathOf gt ∧ Q.get p (h00 ev pt et P.globals.size n s).tr = some ob) := by
    intro p ob hp
    have hp : Q.get p (Q.set (pathOf gt) (some (tabO tt zs)) (h00 ev pt et P.globals.size n s).tr) = some ob := hp
    rw [Q.get_set] at hp
    split at hp
    · rename_i e; cases hp; exact .inl ⟨e, rfl⟩
    · rename_i e; exact .inr ⟨e, hp⟩
  have far : ∀ p ob l, p ≠ pathOf gt → Q.get p (h00 ev pt et P.globals.size n s).tr = some ob → rho0 P.globals.size n b o p = some l → l.cb ≠ gt := by
    intro p ob l hne hp hl e
    obtain ⟨g, hg, ⟨rfl, rfl⟩ | ⟨rfl, rfl⟩⟩ := h00_get hp
    · unfold rho0 at hl
      rw [num_pathOf, if_pos (by omega)] at hl
      cases hl
      have e : g = gt := e
      omega
    · unfold rho0 at hl
      rw [num_pathOf, if_neg (by omega), if_pos (by omega)] at hl
      cases hl
      have e : b (P.globals.size + g - P.globals.size) = gt := e
      rw [Nat.add_sub_cancel_left] at e
      obtain ⟨cs, t', z, h1, h2⟩ := h.sent g hg
      rw [e, htab] at h1
      cases h1
      simp at h2
  refine ⟨⟨fun p ob l hp hq => ?_, fun p p' ob ob' l l' hp hp' hq hq' hne => ?_, m.glob_le hle, fun p ob hp => ?_⟩, ?_, ?_⟩
  · rcases get p ob hp with ⟨rfl, rfl⟩ | ⟨hne, hp⟩
    · rw [ht] at hq
      cases hq
      refine ⟨_, t, 0, htab, by simp, ⟨fun h => (by cases h), fun _ => ⟨rfl, by simp⟩⟩, fun i v hv => ?_⟩
      simp only [List.getElem?_map, Option.map_eq_some_iff] at hv
      obtain ⟨z, hz, rfl⟩ := hv
      have hl := (List.getElem?_eq_some_iff.1 hz).1
      exact ⟨by simpa using hl, rfl, .int .u64 z, by simp [hz], den_int _ _ _⟩
    · rw [same p ob hp] at hq
      exact (m.obj p ob l hp hq).mono hle rfl
  · rcases get p ob hp with ⟨rfl, rfl⟩ | ⟨hne1, hp⟩ <;> rcases get p' ob' hp' with ⟨rfl, rfl⟩ | ⟨hne2, hp'⟩
    · exact absurd rfl hne
    · rw [ht] at hq; cases hq
      rw [same p' ob' hp'] at hq'
      exact .inl fun e => far p' ob' l' hne2 hp' hq' e.symm
    · rw [ht] at hq'; cases hq'
      rw [same p ob hp] at hq
      exact .inl (far p ob l hne1 hp hq)
    · rw [same p ob hp] at hq
      rw [same p' ob' hp'] at hq'
      exact m.apart p p' ob ob' l l' hp hp' hq hq' hne
  · show num p < num (pathOf (P.globals.size + n + 1))
    rw [num_pathOf]
    rcases get p ob hp with ⟨rfl, rfl⟩ | ⟨hne, hp⟩
    · rw [num_pathOf]; omega
    · have := hlt p ob hp; omega
  · rintro cb ⟨p, ob, l, hp, hro, hq, rfl⟩
    rcases get p ob hp with ⟨rfl, rfl⟩ | ⟨hne, hp⟩
    · cases hro
    · rw [same p ob hp] at hq
      exact hw l.cb ⟨p, ob, l, hp, hro, hq, rfl⟩
  · intro h' p q1 _
    have q1 : num (pathOf (P.globals.size + n + 1)) ≤ num p := q1
    rw [num_pathOf] at q1
    unfold rhoSym rho0
    rw [if_neg (by omega), if_neg (by omega), if_neg (by omega)]
/-- The run of a statement over one number that is only handed about. -/
theorem calls_true_sym {P : Program} {X : Ext} {call : CallH} (hc : CallOk P X call) {f : FuncId} {a : AFn} (hfn : FnOk P f a) {laid : List (String × DataW Unit)} {n : Nat} {ev pt et : TypeId} {idx : Nat → Nat} {txt : Nat → List UInt8} (hs : SentsAre P laid n pt idx txt)
    {gt : Nat} {tt : TypeId} {zs : List Int} (htab : ∀ W, laidMet P laid W → ∃ t, W.heap[gt]? = some (.cells (zs.map fun z => Value.int .u64 z).toArray t (0, 0))) (hgt : n ≤ gt) (hgl : gt < P.globals.size) (k : Int) (hk : IntKind.wrap .i64 k = k)
    (hr : isTrueR (runFn call noCall a [.sym (pathOf (P.globals.size + n)) (Lib.itoa k).length] (h02 ev pt et P.globals.size n (fun g => ((txt g).length, encL (txt g) 0)) gt tt zs)) = true) {W : World} (hl : laidMet P laid W) : Calls P f #[.int .i64 k] W fun e w' => e = .returned (.bool true) ∧ Below W.heap.size W w' := by
  obtain ⟨h', hr'⟩ := isTrueR_eq hr
  obtain ⟨b, o, h1, h2⟩ := laidOk_of hs hl
  obtain ⟨t, h3⟩ := htab W hl
  obtain ⟨m, hw, hf⟩ := mem_sym (ev := ev) (et := et) (tt := tt) h1 h2 h3 hgt hgl k
  have hx : denL (rhoSym (P.globals.size + n) k (rho0 P.globals.size n b o)) [.sym (pathOf (P.globals.size + n)) (Lib.itoa k).length] = some [.int .i64 k] := by
    refine denL_cons_eq.2 ⟨.int .i64 k, [], ?_, rfl, rfl⟩
    have e : symI ⟨encInt k, 0, 0⟩ = k := by unfold symI; rw [decInt_enc, hk]
    simp only [den, rhoSym, num_pathOf, if_true, Option.bind_some, symT, e]
  exact Calls.mono (fn_calls hc defOk_none hfn hr' m (hf h') hx).2 fun e w' hg => good_true hw hg
/-! ## A number in decimal -/
noncomputable def isTab (tt : TypeId) (zs : List Int) (o : AO) : Bool := match o with
  | .box e true c => band (Nat.beq e tt) (flatSameL c (zs.map fun z => AV.int .u64 z))
  | _ => false
theorem isTab_eq {tt : TypeId} {zs : List Int} {o : AO} (h : isTab tt zs o = true) : o = tabO tt zs := by
  unfold isTab at h
  split at h
  · rw [band_eq, Bool.and_eq_true, natBeq_eq] at h
    obtain ⟨rfl, h2⟩ := h
    rw [flatSameL_eq h2]; rfl
  · cases h
noncomputable def symBs (b : Id) (n : Nat) : List AV := (List.range n).map fun i => .symB b i
noncomputable def fmtX (gt : Nat) (tt : TypeId) (zs : List Int) (a : AFn) : CallH → List AV → AH → R (AV × AH) := fun ih args h => match args with
  | [.sym b n, .int .i64 (.ofNat 10)] => tst 450 (onSome (isTab tt zs) (Q.get (pathOf gt) h.tr)) (.ok (.strL (symBs b n), h))
  | args => runFn ih noCall a args h
theorem fmt_ok {P : Program} {X : Ext} {f : FuncId} {fn : Func} {c : Code} {gt : Nat} {tt : TypeId} {zs : List Int} {a : AFn} (hlen : 1 < zs.length) (hgl : gt < P.globals.size) (hf : P.funcs[f]? = some fn) (hname : (fn.name == "runtime.NumGoroutine") = false) (hb : fn.body = some c) (hfn : FnOk P f a)
    (walk : ∀ (n : Int) (w : World), -9223372036854775808 ≤ n → n ≤ 9223372036854775807 → (∃ t z, w.heap[gt]? = some (.cells (zs.map fun z => Value.int .u64 z).toArray t z)) → Calls P f #[.int .i64 n, .int .i64 10] w fun e w' => e = .returned (.string ⟨(Lib.itoa n).toArray⟩) ∧ Below w.heap.size w w') : OneOk P X f (fmtX gt tt zs a) :=
  oneOk_calls hf hname hb fun ih hc args h v h' hr => by
    unfold fmtX at hr
    split at hr
    · rename_i b n
      obtain ⟨h1, h2⟩ := tst_eq.1 hr
      cases h2
      obtain ⟨ob, h3, h4⟩ := onSome_eq h1
      have h4 := isTab_eq h4
      subst h4
      refine ⟨Nat.le_refl _, fun ρ w xs m hfr hx => ?_⟩
      obtain ⟨y, ys, g1, g2, rfl⟩ := denL_cons_eq.1 hx
      obtain ⟨y2, ys2, g3, g4, rfl⟩ := denL_cons_eq.1 g2
      cases g4
      rw [den_int] at g3
      cases g3
      simp only [den, Option.bind_eq_some_iff] at g1
      obtain ⟨l, g1, g5⟩ := g1
      split at g5
      case isFalse => cases g5
      rename_i hl
      cases g5
      obtain ⟨cg, hcg⟩ := m.glob gt hgl
      obtain ⟨cs, e', z, q1, q2, q3, q4⟩ := m.obj _ _ _ h3 hcg
      obtain ⟨_, q5⟩ := q3.2 (by simpa using hlen)
      have hcs : cs = (zs.map fun z => Value.int .u64 z).toArray := by
        apply Array.ext
        · simpa using q5
        · intro i hi hi'
          have hi2 : i < zs.length := by simpa using hi'
          obtain ⟨_, _, x, p1, p2⟩ := q4 i (.int .u64 zs[i]) (by simp [hi2])
          rw [den_int] at p2
          cases p2
          simp only [Nat.zero_add] at p1
          have := (Array.getElem?_eq_some_iff.1 p1).2
          rw [this]; simp
      rw [hcs] at q1
      have hrange : ∀ x : Int, -9223372036854775808 ≤ IntKind.wrap .i64 x ∧ IntKind.wrap .i64 x ≤ 9223372036854775807 := fun x => by unfold IntKind.wrap; simp [IntKind.signed, IntKind.bits]; split <;> omega
      refine Calls.mono (walk _ w (hrange _).1 (hrange _).2 ⟨e', _, q1⟩) fun e w' ⟨he, hbel⟩ => ?_
      obtain ⟨m', hs⟩ := m.grown hbel.os hbel.tape hbel.output hbel.size hbel.block
      refine ⟨ρ, .string ⟨(symT l).toArray⟩, he, hs, m', den_strL (denL_of_get ?_ fun i v y hv hy => ?_)⟩
      · unfold symBs; simp [hl]
      · unfold symBs at hv
        simp only [List.getElem?_map, Option.map_eq_some_iff] at hv hy
        obtain ⟨j, hj, rfl⟩ := hv
        obtain ⟨u, hu, rfl⟩ := hy
        have hi : i < n := by have := (List.getElem?_eq_some_iff.1 hj).1; simpa using this
        rw [List.getElem?_range hi] at hj
        cases hj
        simp only [den, g1, Option.map_some]
        rw [List.getD, hu]
        rfl
    · exact ⟨runFn_mono hc.mono (fun df h h' hd => by rw [(noDefers hd).2]; exact Nat.le_refl _) hfn hr, fun ρ w xs m hfr hx => (fn_calls hc defOk_none hfn hr m hfr hx).2⟩
/-- How long a whole number's text is. -/
theorem itoa_le {k : Int} (h0 : -9223372036854775808 ≤ k) (h1 : k ≤ 9223372036854775807) : 0 < (Lib.itoa k).length ∧ (Lib.itoa k).length ≤ 20 := by
  have key : ∀ u : Nat, u ≤ 9223372036854775808 → 0 < (Lib.decDigits u).length ∧ (Lib.decDigits u).length ≤ 19 := by
    intro u hu
    rw [Lib.decDigits_eq]
    simp only [List.length_map, List.length_range]
    refine ⟨Lib.nDigits_pos u, ?_⟩
    have aux : ∀ (n u : Nat), u < 10 ^ (n + 1) → Lib.nDigits u ≤ n + 1 := by
      intro n
      induction n with
      | zero => intro u h; rw [Lib.nDigits_small (by simpa using h)]; exact Nat.le_refl _
      | succ n ih =>
        intro u h
        by_cases hs : u < 10
        · rw [Lib.nDigits_small hs]; omega
        · rw [Lib.nDigits_big hs]
          have := ih (u / 10) (by rw [Nat.pow_succ] at h; omega)
          omega
    exact aux 18 u (by have : (10 : Nat) ^ 19 = 10000000000000000000 := by decide
                       omega)
  unfold Lib.itoa
  split
  · have := key k.natAbs (by omega)
    simp only [List.length_cons]; omega
  · have := key k.toNat (by omega)
    omega
end Go.AX
