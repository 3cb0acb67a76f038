/- The abstract executor: regions that draw their order: what stands fixed. -/
import Derived.Test.YtgmndgnhejdnaaaGreatDoorAxC
import Derived.Laws.Panics
namespace Go.AX

noncomputable def befOf (o : Oper) (acc : List Nat) : Nat := (o.after.toList.filter (Region.binds .any)).foldl (fun s e => s ||| 2 ^ e.on ||| ((nth e.on acc).getD 0)) 0
theorem befs_cons (o : Oper) (l : List Oper) (acc : List Nat) : befs (o :: l) acc = befs l (acc ++ [befOf o acc]) := by
  show befs l (app acc [befOf o acc]) = _
  rw [app_eq]
theorem befs_old : ∀ (l : List Oper) (acc : List Nat) (i : Nat), i < acc.length → (befs l acc)[i]? = acc[i]?
  | [], acc, i, _ => rfl
  | o :: l, acc, i, h => by
    rw [befs_cons, befs_old l _ i (by simp; omega), List.getElem?_append_left h]
theorem befs_at : ∀ (l : List Oper) (acc : List Nat) (k : Nat) (o : Oper), l[k]? = some o → ∃ acc', acc'.length = acc.length + k ∧ (befs l acc)[acc.length + k]? = some (befOf o acc') ∧ ∀ i, i < acc'.length → (befs l acc)[i]? = acc'[i]?
  | [], acc, k, o, h => by simp at h
  | x :: l, acc, k, o, h => by
    rw [befs_cons]
    cases k with
    | zero =>
      simp at h; subst h
      refine ⟨acc, rfl, ?_, fun i hi => ?_⟩
      · rw [befs_old l _ _ (by simp)]; simp
      · rw [befs_old l _ i (by simp; omega), List.getElem?_append_left hi]
    | succ k =>
      obtain ⟨acc', h1, h2, h3⟩ := befs_at l (acc ++ [befOf x acc]) k o (by simpa using h)
      simp at h1
      refine ⟨acc', by omega, ?_, h3⟩
      rw [← h2]; congr 1; simp; omega
theorem fold_bits (acc : List Nat) (j : Nat) : ∀ (l : List Edge) (s : Nat), (l.foldl (fun s e => s ||| 2 ^ e.on ||| ((nth e.on acc).getD 0)) s).testBit j = true ↔ s.testBit j = true ∨ ∃ e ∈ l, e.on = j ∨ ((nth e.on acc).getD 0).testBit j = true
  | [], s => by simp
  | e :: l, s => by
    rw [List.foldl_cons, fold_bits acc j l]
    simp only [Nat.testBit_or, Bool.or_eq_true, Nat.testBit_two_pow, decide_eq_true_eq, List.mem_cons, exists_eq_or_imp]
    constructor
    · rintro (((h | h) | h) | h)
      · exact .inl h
      · exact .inr (.inl (.inl h))
      · exact .inr (.inl (.inr h))
      · exact .inr (.inr h)
    · rintro (h | ((h | h) | h))
      · exact .inl (.inl (.inl h))
      · exact .inl (.inl (.inr h))
      · exact .inl (.inr h)
      · exact .inr h
structure OrdOk (ops : Array Oper) (bs : List Nat) : Prop where
  lt : ∀ (i : Nat) (o : Oper) (e : Edge), ops[i]? = some o → e ∈ o.after.toList → Region.binds .any e = true → e.on < i
  bit : ∀ (i : Nat) (o : Oper) (j : Nat), ops[i]? = some o → ((bsOf bs i).testBit j = true ↔ ∃ e ∈ o.after.toList, Region.binds .any e = true ∧ (e.on = j ∨ (bsOf bs e.on).testBit j = true))
theorem ordOk_of {ops : Array Oper} (lt : ∀ (i : Nat) (o : Oper) (e : Edge), ops[i]? = some o → e ∈ o.after.toList → Region.binds .any e = true → e.on < i) : OrdOk ops (befs ops.toList []) := by
  refine ⟨lt, fun i o j hi => ?_⟩
  obtain ⟨acc', h1, h2, h3⟩ := befs_at ops.toList [] i o (by simpa using hi)
  simp only [List.length_nil, Nat.zero_add] at h1 h2
  have e1 : bsOf (befs ops.toList []) i = befOf o acc' := by
    unfold bsOf
    rw [nth_eq, h2]; rfl
  have e2 : ∀ k, k < i → (nth k acc').getD 0 = bsOf (befs ops.toList []) k := by
    intro k hk
    unfold bsOf
    rw [nth_eq, nth_eq, h3 k (by omega)]
  rw [e1]
  unfold befOf
  rw [fold_bits]
  simp only [Nat.zero_testBit, Bool.false_eq_true, false_or, List.mem_filter]
  constructor
  · rintro ⟨e, ⟨he, hb⟩, hh⟩
    exact ⟨e, he, hb, by rw [e2 _ (lt i o e hi he hb)] at hh; exact hh⟩
  · rintro ⟨e, he, hb, hh⟩
    exact ⟨e, ⟨he, hb⟩, by rw [e2 _ (lt i o e hi he hb)]; exact hh⟩
theorem drawOk_lt {ops : Array Oper} {bs louds : List Nat} (h : drawOk ops bs louds = true) : ∀ (i : Nat) (o : Oper) (e : Edge), ops[i]? = some o → e ∈ o.after.toList → Region.binds .any e = true → e.on < i := by
  unfold drawOk at h
  rw [band_eq, Bool.and_eq_true] at h
  have lt : ∀ (i : Nat) (o : Oper) (e : Edge), ops[i]? = some o → e ∈ o.after.toList → Region.binds .any e = true → e.on < i := by
    intro i o e hi he hb
    have h1 := List.all_eq_true.1 h.1 (o, i) (by
      rw [List.mem_zipIdx_iff_getElem?]
      simpa using hi)
    simp only [band_eq, Bool.and_eq_true] at h1
    have h2 := List.all_eq_true.1 h1.1 e he
    rw [hb] at h2
    simpa using h2
  exact lt
theorem ordOk {ops : Array Oper} {louds : List Nat} (h : drawOk ops (befs ops.toList []) louds = true) : OrdOk ops (befs ops.toList []) := ordOk_of (drawOk_lt h)
theorem OrdOk.less {ops : Array Oper} {bs : List Nat} (h : OrdOk ops bs) : ∀ (i j : Nat) (o : Oper), ops[i]? = some o → (bsOf bs i).testBit j = true → j < i := by
  intro i
  induction i using Nat.strongRecOn with
  | ind i ih =>
    intro j o hi hj
    obtain ⟨e, he, hb, hh⟩ := (h.bit i o j hi).1 hj
    have hlt := h.lt i o e hi he hb
    rcases hh with rfl | hh
    · exact hlt
    · have hin : e.on < ops.size := by
        have := (Array.getElem?_eq_some_iff.1 hi).1; omega
      have := ih e.on hlt j ops[e.on] (by simp [hin]) hh
      omega

theorem opsD_trace {call : CallH} : ∀ (os : List DOper) (s s' : DSt), opsD call os s = .ok s' → ∃ σ : Nat → DSt, σ 0 = s ∧ σ os.length = s' ∧ ∀ (i : Nat) (o : DOper), os[i]? = some o → operD call o (σ i) = .ok (σ (i + 1))
  | [], s, s', h => by
    have h : R.ok s = .ok s' := h
    cases h
    exact ⟨fun _ => s, rfl, rfl, fun i o ho => by simp at ho⟩
  | o :: os, s, s', h => by
    have h : ((operD call o s).bind (opsD call os)) = .ok s' := h
    obtain ⟨s1, h1, h2⟩ := bind_eq.1 h
    obtain ⟨σ, g1, g2, g3⟩ := opsD_trace os s1 s' h2
    refine ⟨fun i => Nat.casesOn i s σ, rfl, g2, fun i x hx => ?_⟩
    cases i with
    | zero => simp at hx; subst hx; show operD call o s = .ok (σ 0); rw [g1]; exact h1
    | succ i => exact g3 i x (by simpa using hx)
theorem opers_trace {ops : Array Oper} : ∀ (l : List Oper) (E E' : CE) (as : List AOper), E.opers ops l = .ok (as, E') → as.length = l.length ∧ ∃ F : Nat → CE, F 0 = E ∧ F l.length = E' ∧ ∀ (i : Nat) (o : Oper), l[i]? = some o → ∃ a, as[i]? = some a ∧ (F i).oper ops o = .ok (a, F (i + 1))
  | [], E, E', as, h => by
    have h : R.ok (([] : List AOper), E) = .ok (as, E') := h
    cases h
    exact ⟨rfl, fun _ => E, rfl, rfl, fun i o ho => by simp at ho⟩
  | o :: l, E, E', as, h => by
    rw [opers_cons] at h
    obtain ⟨⟨ao, E1⟩, h1, h2⟩ := bind_eq.1 h
    obtain ⟨⟨as', E2⟩, h3, h4⟩ := bind_eq.1 h2
    cases h4
    obtain ⟨g0, F, g1, g2, g3⟩ := opers_trace l E1 _ as' h3
    refine ⟨by simp [g0], fun i => Nat.casesOn i E F, rfl, g2, fun i x hx => ?_⟩
    cases i with
    | zero => simp at hx; subst hx; exact ⟨ao, rfl, by show E.oper ops o = .ok (ao, F 0); rw [g1]; exact h1⟩
    | succ i =>
      obtain ⟨a, e1, e2⟩ := g3 i x (by simpa using hx)
      exact ⟨a, by simpa using e1, e2⟩
theorem drawOpers_get (bs louds : List Nat) (n : Nat) : ∀ (l : List AOper) (i k : Nat) (a : AOper), l[k]? = some a → (drawOpers bs louds n l i)[k]? = some ⟨a, i + k, bsel a.reads ((List.range (n + 1)).filter (oksAt bs louds (i + k))) []⟩
  | [], i, k, a, h => by simp at h
  | x :: l, i, k, a, h => by
    have e : drawOpers bs louds n (x :: l) i = ⟨x, i, bsel x.reads ((List.range (n + 1)).filter (oksAt bs louds i)) []⟩ :: drawOpers bs louds n l (i + 1) := rfl
    rw [e]
    cases k with
    | zero => simp at h; subst h; simp
    | succ k =>
      rw [List.getElem?_cons_succ, drawOpers_get bs louds n l (i + 1) k a (by simpa using h)]
      have : i + 1 + k = i + (k + 1) := by omega
      rw [this]
theorem drawOpers_length (bs louds : List Nat) (n : Nat) : ∀ (l : List AOper) (i : Nat), (drawOpers bs louds n l i).length = l.length
  | [], i => rfl
  | x :: l, i => by
    have e : drawOpers bs louds n (x :: l) i = ⟨x, i, bsel x.reads ((List.range (n + 1)).filter (oksAt bs louds i)) []⟩ :: drawOpers bs louds n l (i + 1) := rfl
    rw [e, List.length_cons, drawOpers_length bs louds n l (i + 1), List.length_cons]
theorem louds_mem : ∀ (l : List AOper) (i k : Nat) (a : AOper), l[k]? = some a → a.loud = true → (i + k) ∈ loudsOf l i
  | [], i, k, a, h, _ => by simp at h
  | x :: l, i, k, a, h, hl => by
    have e : loudsOf (x :: l) i = bsel x.loud (i :: loudsOf l (i + 1)) (loudsOf l (i + 1)) := rfl
    rw [e, bsel_eq]
    cases k with
    | zero => simp at h; subst h; rw [if_pos hl]; simp
    | succ k =>
      have := louds_mem l (i + 1) k a (by simpa using h) hl
      have e2 : i + 1 + k = i + (k + 1) := by omega
      rw [e2] at this
      split
      · exact List.mem_cons_of_mem _ this
      · exact this
theorem louds_of : ∀ (l : List AOper) (i p : Nat), p ∈ loudsOf l i → ∃ k a, p = i + k ∧ l[k]? = some a ∧ a.loud = true
  | [], i, p, h => by cases h
  | x :: l, i, p, h => by
    have e : loudsOf (x :: l) i = bsel x.loud (i :: loudsOf l (i + 1)) (loudsOf l (i + 1)) := rfl
    rw [e, bsel_eq] at h
    have go : p ∈ loudsOf l (i + 1) → ∃ k a, p = i + k ∧ (x :: l)[k]? = some a ∧ a.loud = true := fun h => by
      obtain ⟨k, a, h1, h2, h3⟩ := louds_of l (i + 1) p h
      exact ⟨k + 1, a, by omega, by simpa using h2, h3⟩
    split at h
    · rename_i hx
      rcases List.mem_cons.1 h with rfl | h
      · exact ⟨0, x, rfl, rfl, hx⟩
      · exact go h
    · exact go h
theorem agree_mem {ps : List Pend} {hs : List (Nat × AH)} (h : agreeAll ps hs = .ok ()) {p : Pend} (hp : p ∈ ps) {e : Nat × AH} (he : e ∈ hs) (hn : e.1 ∈ p.oks) : ∃ u, p.f e.2 = .ok u ∧ avSame p.v u = true := by
  have memN_eq : ∀ (n : Nat) (l : List Nat), n ∈ l → memN n l = true := by
    intro n l
    induction l with
    | nil => intro h; cases h
    | cons m l ih =>
      intro h
      show bor (Nat.beq m n) (memN n l) = true
      rw [bor_eq, Bool.or_eq_true, natBeq_eq]
      rcases List.mem_cons.1 h with rfl | h
      · exact .inl rfl
      · exact .inr (ih h)
  have h1 : agreeOne p hs = .ok () := by
    clear he hn
    induction ps with
    | nil => cases hp
    | cons q ps ih =>
      have h : ((agreeOne q hs).bind fun _ => agreeAll ps hs) = .ok () := h
      obtain ⟨_, h1, h2⟩ := bind_eq.1 h
      rcases List.mem_cons.1 hp with rfl | hp
      · exact h1
      · exact ih h2 hp
  clear h
  induction hs with
  | nil => cases he
  | cons x hs ih =>
    have h1 : bsel (memN x.1 p.oks) ((agrees p.f p.v x.2).bind fun _ => agreeOne p hs) (agreeOne p hs) = .ok () := h1
    rw [bsel_eq] at h1
    rcases List.mem_cons.1 he with rfl | he
    · rw [if_pos (memN_eq _ _ hn)] at h1
      obtain ⟨_, h2, _⟩ := bind_eq.1 h1
      obtain ⟨u, h3, h4⟩ := bind_eq.1 h2
      exact ⟨u, h3, (tst_eq.1 h4).1⟩
    · split at h1
      · obtain ⟨_, _, h2⟩ := bind_eq.1 h1
        exact ih he h2
      · exact ih he h1
end Go.AX
/- The abstract executor: regions that draw their order: what each operation did. -/
namespace Go.AX

def GOk (ops : Array Oper) (o : Oper) (E : CE) (l : List AV) (tm : Q AV) (on : Bool) : Prop :=
  (o.guard = none ∧ on = true) ∨ ∃ j want t g u, o.guard = some (j, want) ∧ ((ops[j]?).bind (·.dst)) = some t ∧ E.opd (.tmp t) = .ok g ∧ g l tm = .ok u ∧ wantB want u = on
structure Did (P : Program) (X : Ext) (call : CallH) (ops : Array Oper) (o : Oper) (E E1 : CE) (s s1 : DSt) (pos : Nat) (loud : Bool) (reads : Bool) (oks : List Nat) (v : AV) (al : Option (Id × AO)) : Prop where
  dst : ∃ dd, E.dst o.dst = .ok (dd, E1) ∧ s1.l = dd.l v s.l ∧ s1.tm = dd.t v s.tm
  hs : ∀ e, e ∈ s.hs → e ∈ s1.hs
  ps : ∀ e, e ∈ s.ps → e ∈ s1.ps
  lh : loud = true → (pos + 1, s1.hp) ∈ s1.hs
  how : (al = none ∧ GOk ops o E s.l s.tm false ∧ v = .undef ∧ s1.hp = s.hp) ∨
    (al = none ∧ GOk ops o E s.l s.tm true ∧ s1.hp = s.hp ∧ ∃ f, PurOk P o E f ∧ f s.l s.tm = .ok v) ∨
    (al = none ∧ GOk ops o E s.l s.tm true ∧ s1.hp = s.hp ∧ reads = true ∧ ∃ f, RdOk P o E f ∧ (⟨oks, f s.l s.tm, v⟩ : Pend) ∈ s1.ps) ∨
    (GOk ops o E s.l s.tm true ∧ loud = false ∧ ∃ f ob, AlcOk P o E f ∧ f s.l s.tm s.hp.nx = .ok (v, ob) ∧ s1.hp = s.hp.alloc ob ∧ al = some (s.hp.nx, ob)) ∨
    (al = none ∧ GOk ops o E s.l s.tm true ∧ loud = true ∧ ∃ f, MemOk P X o E f ∧ f call s.l s.tm s.hp = .ok (v, s1.hp))
theorem put_l (s : DSt) (d : Dst) (v : AV) : (s.put d v).l = d.l v s.l := by cases d <;> rfl
theorem put_t (s : DSt) (d : Dst) (v : AV) : (s.put d v).tm = d.t v s.tm := by cases d <;> rfl
theorem put_h (s : DSt) (d : Dst) (v : AV) : (s.put d v).hp = s.hp := by cases d <;> rfl
theorem put_hs (s : DSt) (d : Dst) (v : AV) : (s.put d v).hs = s.hs := by cases d <;> rfl
theorem put_ps (s : DSt) (d : Dst) (v : AV) : (s.put d v).ps = s.ps := by cases d <;> rfl
section
variable {P : Program} {X : Ext} {call : CallH} {ops : Array Oper}
theorem did_opD {o : Oper} {E E1 : CE} {s s1 : DSt} {pos : Nat} {oks : List Nat} {dd : Dst} {k : OpK} {lo re : Bool} (hlo : lo = true ↔ ∃ f, k = .mem f) (hre : (∃ f, k = .rd f) → re = true) (hk : KOk P X o E k) (hd : E.dst o.dst = .ok (dd, E1)) (hg : GOk ops o E s.l s.tm true) (h : opD call dd k pos oks s = .ok s1) :
    ∃ v al, Did P X call ops o E E1 s s1 pos lo re oks v al := by
  cases k with
  | pur f =>
    obtain ⟨v, h1, h2⟩ := bind_eq.1 h
    cases h2
    refine ⟨v, none, ⟨dd, hd, put_l _ _ _, put_t _ _ _⟩, fun e he => by rw [put_hs]; exact he, fun e he => by rw [put_ps]; exact he, fun hl => ?_, .inr (.inl ⟨rfl, hg, put_h _ _ _, f, hk, h1⟩)⟩
    obtain ⟨f', hf⟩ := hlo.1 hl; cases hf
  | rd f =>
    obtain ⟨g, h0, h1⟩ := bind_eq.1 h
    obtain ⟨v, h2, h3⟩ := bind_eq.1 h1
    cases h3
    refine ⟨v, none, ⟨dd, hd, put_l _ _ _, put_t _ _ _⟩, fun e he => by rw [put_hs]; exact he, fun e he => by rw [put_ps]; exact List.mem_cons_of_mem _ he, fun hl => ?_, .inr (.inr (.inl ⟨rfl, hg, put_h _ _ _, hre ⟨f, rfl⟩, f, hk, by rw [put_ps]; exact List.mem_cons_self⟩))⟩
    obtain ⟨f', hf⟩ := hlo.1 hl; cases hf
  | alc f =>
    obtain ⟨⟨v, ob⟩, h1, h2⟩ := bind_eq.1 h
    cases h2
    refine ⟨v, some (s.hp.nx, ob), ⟨dd, hd, put_l _ _ _, put_t _ _ _⟩, fun e he => by rw [put_hs]; exact he, fun e he => by rw [put_ps]; exact he, fun hl => ?_, .inr (.inr (.inr (.inl ⟨hg, ?_, f, ob, hk, h1, put_h _ _ _, rfl⟩)))⟩
    · obtain ⟨f', hf⟩ := hlo.1 hl; cases hf
    · cases lo with
      | false => rfl
      | true => obtain ⟨f', hf⟩ := hlo.1 rfl; cases hf
  | mem f =>
    obtain ⟨⟨v, h'⟩, h1, h2⟩ := bind_eq.1 h
    cases h2
    refine ⟨v, none, ⟨dd, hd, put_l _ _ _, put_t _ _ _⟩, fun e he => by rw [put_hs]; exact List.mem_cons_of_mem _ he, fun e he => by rw [put_ps]; exact he, fun _ => ?_, .inr (.inr (.inr (.inr ⟨rfl, hg, hlo.2 ⟨f, rfl⟩, f, hk, by rw [put_h]; exact h1⟩)))⟩
    rw [put_hs, put_h]; exact List.mem_cons_self
theorem did_operD {o : Oper} {E E1 : CE} {s s1 : DSt} {pos : Nat} {oks : List Nat} {ao : AOper} (hP : E.P = P) (hco : E.oper ops o = .ok (ao, E1)) (h : operD call ⟨ao, pos, oks⟩ s = .ok s1) :
    ∃ v al, Did P X call ops o E E1 s s1 pos ao.loud ao.reads oks v al := by
  rcases oper_compiled (X := X) hP hco with ⟨f, q, c, _x0, _, _, _, _, _hf0, _, rfl, _⟩ | ⟨k, dd, hk, _, hd, ⟨hg, rfl⟩ | ⟨j, want, t, g, hg, ht, hgo, rfl⟩⟩
  · cases h
  · exact did_opD (by cases k <;> simp [AOper.loud]) (by rintro ⟨f, rfl⟩; rfl) hk hd (.inl ⟨hg, rfl⟩) h
  · obtain ⟨u, h1, h2⟩ := bind_eq.1 h
    rw [bsel_eq] at h2
    split at h2
    · rename_i hw
      exact did_opD (by cases k <;> simp [AOper.loud]) (by rintro ⟨f, rfl⟩; rfl) hk hd (.inr ⟨j, want, t, g, u, hg, ht, hgo, h1, hw⟩) h2
    · rename_i hw
      have hG : GOk ops o E s.l s.tm false := .inr ⟨j, want, t, g, u, hg, ht, hgo, h1, by simpa using hw⟩
      cases k with
      | mem f =>
        cases h2
        refine ⟨.undef, none, ⟨dd, hd, put_l _ _ _, put_t _ _ _⟩, fun e he => by rw [put_hs]; exact List.mem_cons_of_mem _ he, fun e he => by rw [put_ps]; exact he, fun _ => ?_, .inl ⟨rfl, hG, rfl, put_h _ _ _⟩⟩
        rw [put_hs, put_h]; exact List.mem_cons_self
      | pur f =>
        cases h2
        exact ⟨.undef, none, ⟨dd, hd, put_l _ _ _, put_t _ _ _⟩, fun e he => by rw [put_hs]; exact he, fun e he => by rw [put_ps]; exact he, fun hl => (by cases hl), .inl ⟨rfl, hG, rfl, put_h _ _ _⟩⟩
      | rd f =>
        cases h2
        exact ⟨.undef, none, ⟨dd, hd, put_l _ _ _, put_t _ _ _⟩, fun e he => by rw [put_hs]; exact he, fun e he => by rw [put_ps]; exact he, fun hl => (by cases hl), .inl ⟨rfl, hG, rfl, put_h _ _ _⟩⟩
      | alc f =>
        cases h2
        exact ⟨.undef, none, ⟨dd, hd, put_l _ _ _, put_t _ _ _⟩, fun e he => by rw [put_hs]; exact he, fun e he => by rw [put_ps]; exact he, fun hl => (by cases hl), .inl ⟨rfl, hG, rfl, put_h _ _ _⟩⟩
end
theorem kindEqF {a b : FloatKind} (h : bEq (a matches .f32) (b matches .f32) = true) : a = b := by cases a <;> cases b <;> first | rfl | cases h
theorem byteSame_eq {v u : AV} (h : byteSame v u = true) : v = u := by
  unfold byteSame at h
  split at h
  · rw [band_eq, Bool.and_eq_true, intEq_eq, beq_iff_eq] at h
    rw [kindEq_eq h.1, h.2]
  · rw [band_eq, Bool.and_eq_true, natBeq_eq] at h; rw [idEq_eq h.1, h.2]
  · cases h
theorem byteSameL_eq : ∀ {l m : List AV}, byteSameL l m = true → l = m
  | [], [], _ => rfl
  | [], _ :: _, h => by cases h
  | _ :: _, [], h => by cases h
  | v :: l, u :: m, h => by
    have h : band (byteSame v u) (byteSameL l m) = true := h
    rw [band_eq, Bool.and_eq_true] at h
    rw [byteSame_eq h.1, byteSameL_eq h.2]
theorem flatSame_eq {v u : AV} (h : flatSame v u = true) : v = u := by
  unfold flatSame at h
  split at h
  · rw [bEq_eq, beq_iff_eq] at h; rw [h]
  · rw [band_eq, Bool.and_eq_true, intEq_eq, beq_iff_eq] at h
    rw [kindEq_eq h.1, h.2]
  · rw [band_eq, Bool.and_eq_true, natBeq_eq] at h
    rw [kindEqF h.1, h.2]
  · rw [band_eq, Bool.and_eq_true, natBeq_eq, natBeq_eq] at h; rw [h.1, h.2]
  · rfl
  · rw [band_eq, Bool.and_eq_true, natBeq_eq] at h; rw [idEq_eq h.1, h.2]
  · rfl
  · rw [band_eq, band_eq, band_eq, Bool.and_eq_true, Bool.and_eq_true, Bool.and_eq_true, natBeq_eq, natBeq_eq] at h
    obtain ⟨h1, h2, h3, h4⟩ := h
    have := idEq_eq h1
    subst this; subst h2; subst h3
    split at h4
    · rw [natBeq_eq] at h4; rw [h4]
    · rw [natBeq_eq] at h4; rw [h4]
    · cases h4
  · rw [band_eq, band_eq, band_eq, Bool.and_eq_true, Bool.and_eq_true, Bool.and_eq_true, natBeq_eq, natBeq_eq, natBeq_eq] at h
    obtain ⟨h1, h2, h3, h4⟩ := h
    rw [idEq_eq h1, h2, h3, h4]
  · rfl
  · rw [idEq_eq h]
  · rfl
  · rw [natBeq_eq] at h; rw [h]
  · rfl
  · rw [band_eq, Bool.and_eq_true, natBeq_eq] at h; rw [idEq_eq h.1, h.2]
  · rw [band_eq, Bool.and_eq_true, natBeq_eq] at h; rw [idEq_eq h.1, h.2]
  · rw [byteSameL_eq h]
  · rw [idEq_eq h]
  · cases h
theorem flatSame1_eq {v u : AV} (h : flatSame1 v u = true) : v = u := by
  unfold flatSame1 at h
  split at h
  · rw [band_eq, Bool.and_eq_true, natBeq_eq] at h
    rw [h.1, flatSame_eq h.2]
  · exact flatSame_eq h
theorem flatSameL_eq : ∀ {l m : List AV}, flatSameL l m = true → l = m
  | [], [], _ => rfl
  | [], _ :: _, h => by cases h
  | _ :: _, [], h => by cases h
  | v :: l, u :: m, h => by
    have h : band (flatSame1 v u) (flatSameL l m) = true := h
    rw [band_eq, Bool.and_eq_true] at h
    rw [flatSame1_eq h.1, flatSameL_eq h.2]
theorem aggSame_eq {v u : AV} (h : aggSame v u = true) : v = u := by
  unfold aggSame at h
  split at h
  · rw [flatSameL_eq h]
  · exact flatSame1_eq h
theorem aggSameL_eq : ∀ {l m : List AV}, aggSameL l m = true → l = m
  | [], [], _ => rfl
  | [], _ :: _, h => by cases h
  | _ :: _, [], h => by cases h
  | v :: l, u :: m, h => by
    have h : band (aggSame v u) (aggSameL l m) = true := h
    rw [band_eq, Bool.and_eq_true] at h
    rw [aggSame_eq h.1, aggSameL_eq h.2]
theorem avSame_eq {v u : AV} (h : avSame v u = true) : v = u := by
  unfold avSame at h
  split at h
  · rw [flatSameL_eq h]
  · rw [aggSameL_eq h]
  · exact flatSame1_eq h

theorem Mem.sub {P : Program} {ρ : Rho} {h h' : AH} {w : World} (m : Mem P ρ h w) (hs : ∀ b o, Q.get b h'.tr = some o → Q.get b h.tr = some o) (hw : ∀ b o, Q.get b h'.tr = some o → num b < num h'.nx) : Mem P ρ h' w :=
  ⟨fun b o l h1 h2 => m.obj b o l (hs b o h1) h2, fun b b' o o' l l' h1 h2 h3 h4 h5 => m.apart b b' o o' l l' (hs b o h1) (hs b' o' h2) h3 h4 h5, m.glob, hw⟩
theorem Mem.late {P : Program} {ρ : Rho} {h : AH} {w : World} {b : Id} {o : AO} (m : Mem P ρ h w) (hb : Q.get b h.tr = some o) (hn : ρ b = none) (cap : Nat) (O : Obj) (ho : ObjOk (ρ.upd b ⟨w.heap.size, 0, cap⟩) ⟨w.heap.size, 0, cap⟩ (w.alloc O) o) :
    Mem P (ρ.upd b ⟨w.heap.size, 0, cap⟩) h (w.alloc O) := by
  have hle := Rho.le_upd ρ ⟨w.heap.size, 0, cap⟩ hn
  have far : ∀ x y k, Q.get x h.tr = some y → ρ x = some k → k.cb < w.heap.size := fun x y k hy hk => (m.obj x y k hy hk).lt
  refine ⟨fun x y k hy hk => ?_, fun x x' y y' k k' hy hy' hk hk' hne => ?_, m.glob_le hle, m.wf⟩
  · by_cases e : x = b
    · subst e; rw [hb] at hy; cases hy; rw [Rho.upd_same] at hk; cases hk; exact ho
    · rw [Rho.upd_other ρ _ e] at hk
      exact ObjOk.mono hle (alloc_old w O (far x y k hy hk)) (m.obj x y k hy hk)
  · by_cases e : x = b
    · by_cases e' : x' = b
      · exact absurd (e.trans e'.symm) hne
      · subst e; rw [Rho.upd_same] at hk; cases hk; rw [Rho.upd_other ρ _ e'] at hk'
        exact .inl (fun e2 => by have := far x' y' k' hy' hk'; simp only at e2; omega)
    · rw [Rho.upd_other ρ _ e] at hk
      by_cases e' : x' = b
      · subst e'; rw [Rho.upd_same] at hk'; cases hk'
        exact .inl (fun e2 => by have := far x y k hy hk; simp only at e2; omega)
      · rw [Rho.upd_other ρ _ e'] at hk'
        exact m.apart x x' y y' k k' hy hy' hk hk' hne
theorem Step.late {ρ0 ρ : Rho} {h0 h : AH} {w0 w : World} {b : Id} (s : Step ρ0 h0 w0 ρ h w) (hn : ρ b = none) (hb : num h0.nx ≤ num b ∧ num b < num h.nx) (cap : Nat) (O : Obj) : Step ρ0 h0 w0 (ρ.upd b ⟨w.heap.size, 0, cap⟩) h (w.alloc O) where
  ext := Rho.le_trans s.ext (Rho.le_upd ρ _ hn)
  dom x hx := by
    by_cases e : x = b
    · subst e; exact .inr hb
    · rw [Rho.upd_other ρ _ e] at hx; exact s.dom x hx
  nx := s.nx
  os := s.os
  tape := s.tape
  output := s.output
  size := by simp; exact Nat.le_succ_of_le s.size
  frame cb hcb hw := by rw [alloc_old w O (Nat.lt_of_lt_of_le hcb s.size), s.frame cb hcb hw]
  wr cb hcb := by
    obtain ⟨x, y, k, hy, hyr, hk, rfl⟩ := hcb
    by_cases e : x = b
    · subst e; rw [Rho.upd_same] at hk; cases hk; exact .inr s.size
    · rw [Rho.upd_other ρ _ e] at hk; exact s.wr _ ⟨x, y, k, hy, hyr, hk, rfl⟩
  own cb hcb := by
    obtain ⟨x, y, k, hy, hk, rfl⟩ := hcb
    by_cases e : x = b
    · subst e; rw [Rho.upd_same] at hk; cases hk; exact .inr s.size
    · rw [Rho.upd_other ρ _ e] at hk; exact s.own _ ⟨x, y, k, hy, hk, rfl⟩
  keeps := s.keeps
end Go.AX
/- The abstract executor: regions that draw their order: the memory, all to come laid in. -/
namespace Go.AX

noncomputable def addAl (al : Nat → Option (Id × AO)) : Nat → Nat → Q AO → Q AO
  | 0, _, t => t
  | k + 1, p, t => addAl al k (p + 1) (match al p with
    | some x => Q.set x.1 (some x.2) t
    | none => t)
theorem addAl_no {al : Nat → Option (Id × AO)} {b : Id} : ∀ (k p : Nat) (t : Q AO), (∀ j x, p ≤ j → j < p + k → al j = some x → x.1 ≠ b) → Q.get b (addAl al k p t) = Q.get b t
  | 0, _, _, _ => rfl
  | k + 1, p, t, h => by
    unfold addAl
    rw [addAl_no k (p + 1) _ fun j x h1 h2 h3 => h j x (by omega) (by omega) h3]
    cases ha : al p with
    | none => rfl
    | some x =>
      simp only
      rw [Q.get_set, if_neg (fun e => h p x (Nat.le_refl _) (by omega) ha e.symm)]
theorem addAl_yes {al : Nat → Option (Id × AO)} {b : Id} {o : AO} {j : Nat} (hj : al j = some (b, o)) : ∀ (k p : Nat) (t : Q AO), p ≤ j → j < p + k → (∀ j' x, j < j' → j' < p + k → al j' = some x → x.1 ≠ b) → Q.get b (addAl al k p t) = some o
  | 0, p, t, h1, h2, _ => by omega
  | k + 1, p, t, h1, h2, h3 => by
    unfold addAl
    by_cases e : p = j
    · subst e
      rw [addAl_no k (p + 1) _ fun j' x g1 g2 g3 => h3 j' x (by omega) (by omega) g3, hj]
      simp only
      rw [Q.get_set, if_pos rfl]
    · exact addAl_yes hj k (p + 1) _ (by omega) (by omega) fun j' x g1 g2 g3 => h3 j' x g1 (by omega) g3

structure Ctx (P : Program) (X : Ext) (call : CallH) (ops : Array Oper) (σ : Nat → DSt) (F : Nat → CE) (v : Nat → AV) (al : Nat → Option (Id × AO)) (lo re : Nat → Bool) (oks : Nat → List Nat) (bs : List Nat) : Prop where
  did : ∀ (i : Nat) (o : Oper), ops[i]? = some o → Did P X call ops o (F i) (F (i + 1)) (σ i) (σ (i + 1)) i (lo i) (re i) (oks i) (v i) (al i)
  prog : ∀ i, i ≤ ops.size → (F i).P = P
  ord : OrdOk ops bs
  wr : ∀ (i : Nat) (o : Oper) (t : Nat), ops[i]? = some o → t ∈ o.looksAt ops → ∀ (j : Nat) (x : Oper), ops[j]? = some x → x.dst = some t → (bsOf bs i).testBit j = true ∨ (bsOf bs j).testBit i = true
  nd : ∀ (i j : Nat) (x y : Oper) (t : Nat), ops[i]? = some x → ops[j]? = some y → x.dst = some t → y.dst = some t → i = j
  tot : ∀ a b, a < ops.size → b < ops.size → lo a = true → lo b = true → a < b → (bsOf bs b).testBit a = true
  ok : ∀ i p, i < ops.size → re i = true → p ≤ ops.size → (∀ a, a < ops.size → lo a = true → ((bsOf bs i).testBit a = true → a < p) ∧ ((bsOf bs a).testBit i = true → ¬ a < p)) → p ∈ oks i
  ag : agreeAll (σ ops.size).ps (σ ops.size).hs = .ok ()
  h0 : (0, (σ 0).hp) ∈ (σ 0).hs
  mono : ∀ i, i < ops.size → num (σ i).hp.nx ≤ num (σ (i + 1)).hp.nx

section
variable {P : Program} {X : Ext} {call : CallH} {ops : Array Oper} {σ : Nat → DSt} {F : Nat → CE} {v : Nat → AV} {al : Nat → Option (Id × AO)} {lo re : Nat → Bool} {oks : Nat → List Nat} {bs : List Nat}
theorem getOp {i : Nat} (hi : i < ops.size) : ∃ o, ops[i]? = some o := ⟨ops[i], by simp [hi]⟩
theorem Ctx.le (C : Ctx P X call ops σ F v al lo re oks bs) {i : Nat} : ∀ {j : Nat}, i ≤ j → j ≤ ops.size → num (σ i).hp.nx ≤ num (σ j).hp.nx
  | 0, h1, _ => by
    have : i = 0 := by omega
    subst this; exact Nat.le_refl _
  | j + 1, h1, h2 => by
    by_cases e : i = j + 1
    · subst e; exact Nat.le_refl _
    · exact Nat.le_trans (C.le (j := j) (by omega) (by omega)) (C.mono j (by omega))
theorem Ctx.al_at (C : Ctx P X call ops σ F v al lo re oks bs) {i : Nat} {x : Id × AO} (hi : i < ops.size) (h : al i = some x) : x.1 = (σ i).hp.nx ∧ (σ (i + 1)).hp = (σ i).hp.alloc x.2 ∧ lo i = false := by
  obtain ⟨o, ho⟩ := getOp hi
  rcases (C.did i o ho).how with h1 | h1 | h1 | h1 | h1
  · rw [h1.1] at h; cases h
  · rw [h1.1] at h; cases h
  · rw [h1.1] at h; cases h
  · obtain ⟨_, h2, f, ob, _, _, h3, h4⟩ := h1
    rw [h4] at h; cases h
    exact ⟨rfl, h3, h2⟩
  · rw [h1.1] at h; cases h
theorem Ctx.quiet (C : Ctx P X call ops σ F v al lo re oks bs) {i : Nat} (hi : i < ops.size) (hq : lo i = false) : (al i = none ∧ (σ (i + 1)).hp = (σ i).hp) ∨ ∃ ob, al i = some ((σ i).hp.nx, ob) ∧ (σ (i + 1)).hp = (σ i).hp.alloc ob := by
  obtain ⟨o, ho⟩ := getOp hi
  rcases (C.did i o ho).how with h1 | h1 | h1 | h1 | h1
  · exact .inl ⟨h1.1, h1.2.2.2⟩
  · exact .inl ⟨h1.1, h1.2.2.1⟩
  · exact .inl ⟨h1.1, h1.2.2.1⟩
  · obtain ⟨_, h2, f, ob, _, _, h3, h4⟩ := h1
    exact .inr ⟨ob, h4, h3⟩
  · rw [hq] at h1; cases h1.2.2.1
theorem Ctx.al_lt (C : Ctx P X call ops σ F v al lo re oks bs) {j k : Nat} {x : Id × AO} (hj : j < ops.size) (h : al j = some x) (hk : j < k) (hkn : k ≤ ops.size) : num x.1 < num (σ k).hp.nx := by
  obtain ⟨h1, h2, _⟩ := C.al_at hj h
  have h3 := C.le (i := j + 1) (j := k) (by omega) hkn
  rw [h2, nx_alloc] at h3
  rw [h1]; omega
theorem Ctx.al_ge (C : Ctx P X call ops σ F v al lo re oks bs) {j k : Nat} {x : Id × AO} (hj : j < ops.size) (h : al j = some x) (hk : k ≤ j) : num (σ k).hp.nx ≤ num x.1 := by
  obtain ⟨h1, h2, _⟩ := C.al_at hj h
  rw [h1]
  exact C.le hk (by omega)
theorem Ctx.al_ne (C : Ctx P X call ops σ F v al lo re oks bs) {j k : Nat} {x y : Id × AO} (hj : j < ops.size) (hk : k < ops.size) (hx : al j = some x) (hy : al k = some y) (h : j ≠ k) : x.1 ≠ y.1 := by
  intro e
  rcases Nat.lt_or_gt_of_ne h with h1 | h1
  · have a := C.al_lt hj hx h1 (by omega)
    have b := C.al_ge hk hy (Nat.le_refl k)
    rw [e] at a; omega
  · have a := C.al_lt hk hy h1 (by omega)
    have b := C.al_ge hj hx (Nat.le_refl j)
    rw [e] at b; omega
end
noncomputable def Gat (n : Nat) (σ : Nat → DSt) (al : Nat → Option (Id × AO)) (p : Nat) : AH := ⟨addAl al (n - p) p (σ p).hp.tr, (σ n).hp.nx⟩
section
variable {P : Program} {X : Ext} {call : CallH} {ops : Array Oper} {σ : Nat → DSt} {F : Nat → CE} {v : Nat → AV} {al : Nat → Option (Id × AO)} {lo re : Nat → Bool} {oks : Nat → List Nat} {bs : List Nat}
theorem Gat_same {n p : Nat} (hp : p < n) (h1 : al p = none) (h2 : (σ (p + 1)).hp = (σ p).hp) : Gat n σ al p = Gat n σ al (p + 1) := by
  unfold Gat
  have e : n - p = (n - (p + 1)) + 1 := by omega
  rw [e]
  show (⟨addAl al (n - (p + 1)) (p + 1) _, _⟩ : AH) = _
  rw [h1, h2]
theorem Gat_alloc {n p : Nat} {ob : AO} (hp : p < n) (h1 : al p = some ((σ p).hp.nx, ob)) (h2 : (σ (p + 1)).hp = (σ p).hp.alloc ob) : Gat n σ al p = Gat n σ al (p + 1) := by
  unfold Gat
  have e : n - p = (n - (p + 1)) + 1 := by omega
  rw [e]
  show (⟨addAl al (n - (p + 1)) (p + 1) _, _⟩ : AH) = _
  rw [h1, h2]
  rfl
theorem Ctx.G_eq (C : Ctx P X call ops σ F v al lo re oks bs) {p : Nat} : ∀ {i : Nat}, p ≤ i → i ≤ ops.size → (∀ j, p ≤ j → j < i → lo j = false) → Gat ops.size σ al p = Gat ops.size σ al i
  | 0, h1, _, _ => by
    have : p = 0 := by omega
    subst this; rfl
  | i + 1, h1, h2, h3 => by
    by_cases e : p = i + 1
    · subst e; rfl
    · rw [C.G_eq (i := i) (by omega) (by omega) fun j g1 g2 => h3 j g1 (by omega)]
      rcases C.quiet (i := i) (by omega) (h3 i (by omega) (by omega)) with ⟨g1, g2⟩ | ⟨ob, g1, g2⟩
      · exact Gat_same (by omega) g1 g2
      · exact Gat_alloc (by omega) g1 g2
theorem Ctx.wf_eq (C : Ctx P X call ops σ F v al lo re oks bs) {p : Nat} (hw : ∀ b o, Q.get b (σ p).hp.tr = some o → num b < num (σ p).hp.nx) : ∀ {i : Nat}, p ≤ i → i ≤ ops.size → (∀ j, p ≤ j → j < i → lo j = false) → ∀ b o, Q.get b (σ i).hp.tr = some o → num b < num (σ i).hp.nx
  | 0, h1, _, _ => by
    have : p = 0 := by omega
    subst this; exact hw
  | i + 1, h1, h2, h3 => by
    by_cases e : p = i + 1
    · subst e; exact hw
    · have ih := C.wf_eq hw (i := i) (by omega) (by omega) fun j g1 g2 => h3 j g1 (by omega)
      rcases C.quiet (i := i) (by omega) (h3 i (by omega) (by omega)) with ⟨g1, g2⟩ | ⟨ob, g1, g2⟩
      · rw [g2]; exact ih
      · intro b o hb
        rw [g2, get_alloc] at hb
        rw [g2, nx_alloc]
        split at hb
        · rename_i e; subst e; omega
        · have := ih b o hb; omega
theorem Ctx.G_old (C : Ctx P X call ops σ F v al lo re oks bs) {p : Nat} (hp : p ≤ ops.size) {b : Id} (hb : num b < num (σ p).hp.nx) : Q.get b (Gat ops.size σ al p).tr = Q.get b (σ p).hp.tr :=
  addAl_no _ _ _ fun j x h1 h2 h3 e => by
    have := C.al_ge (k := p) (by omega) h3 h1
    rw [e] at this; omega
theorem Ctx.G_al (C : Ctx P X call ops σ F v al lo re oks bs) {p j : Nat} {x : Id × AO} (h1 : p ≤ j) (h2 : j < ops.size) (h3 : al j = some x) : Q.get x.1 (Gat ops.size σ al p).tr = some x.2 :=
  addAl_yes h3 _ _ _ h1 (by omega) fun j' y g1 g2 g3 e => C.al_ne (by omega) h2 g3 h3 (by omega) e
theorem Ctx.G_inv (C : Ctx P X call ops σ F v al lo re oks bs) {p : Nat} (hp : p ≤ ops.size) {b : Id} {o : AO} (h : Q.get b (Gat ops.size σ al p).tr = some o) :
    (∃ j x, p ≤ j ∧ j < ops.size ∧ al j = some x ∧ b = x.1 ∧ o = x.2) ∨ ((∀ j x, p ≤ j → j < ops.size → al j = some x → x.1 ≠ b) ∧ Q.get b (σ p).hp.tr = some o) := by
  by_cases hx : ∃ j x, p ≤ j ∧ j < ops.size ∧ al j = some x ∧ b = x.1
  · obtain ⟨j, x, h1, h2, h3, rfl⟩ := hx
    refine .inl ⟨j, x, h1, h2, h3, rfl, ?_⟩
    rw [C.G_al h1 h2 h3] at h
    exact (Option.some.inj h).symm
  · have hno : ∀ j x, p ≤ j → j < ops.size → al j = some x → x.1 ≠ b := fun j x h1 h2 h3 e => hx ⟨j, x, h1, h2, h3, e.symm⟩
    refine .inr ⟨hno, ?_⟩
    rw [← h]
    exact (addAl_no _ _ _ fun j x h1 h2 h3 => hno j x h1 (by omega) h3).symm
structure Src (σ : Nat → DSt) (F : Nat → CE) (v : Nat → AV) (ops : Array Oper) (i : Nat) : Prop where
  mask : (F i).mask = (F 0).mask
  nt : (F i).nt = (F 0).nt
  grows : Grows (F 0) (σ 0).l (F i) (σ i).l
  slot : ∀ (t : Nat) (u : AV), (F 0).mask.testBit t = true → Q.get (pathOf t) (σ i).tm = some u → (∃ j x, j < i ∧ ops[j]? = some x ∧ x.dst = some t ∧ u = v j) ∨ ((∀ j x, j < i → ops[j]? = some x → x.dst ≠ some t) ∧ Q.get (pathOf t) (σ 0).tm = some u)
  near : ∀ (k t : Nat) (u : AV), (F i).ns[k]? = some t → (σ i).l[k]? = some u → (F 0).mask.testBit t = false ∧ ((∃ j x, j < i ∧ ops[j]? = some x ∧ x.dst = some t ∧ u = v j) ∨ ((∀ j x, j < i → ops[j]? = some x → x.dst ≠ some t) ∧ ∃ k0 : Nat, (F 0).ns[k0]? = some t ∧ (σ 0).l[k0]? = some u))
theorem Ctx.src (C : Ctx P X call ops σ F v al lo re oks bs) (hn : ∀ (k t : Nat), (F 0).ns[k]? = some t → (F 0).mask.testBit t = false) : ∀ {i : Nat}, i ≤ ops.size → Src σ F v ops i
  | 0, _ => ⟨rfl, rfl, Grows.refl _ _, fun t u _ h => .inr ⟨fun j x hj => by omega, h⟩, fun k t u h1 h2 => ⟨hn k t h1, .inr ⟨fun j x hj => by omega, k, h1, h2⟩⟩⟩
  | i + 1, hi => by
    have ih := C.src hn (i := i) (by omega)
    obtain ⟨o, ho⟩ := getOp (ops := ops) (i := i) (by omega)
    obtain ⟨dd, hd, hl, ht⟩ := (C.did i o ho).dst
    generalize hod : o.dst = d at hd
    have keepS : ∀ {t : Nat} {u : AV}, o.dst ≠ some t → ((∃ j x, j < i ∧ ops[j]? = some x ∧ x.dst = some t ∧ u = v j) → ∃ j x, j < i + 1 ∧ ops[j]? = some x ∧ x.dst = some t ∧ u = v j) ∧ ((∀ j x, j < i → ops[j]? = some x → x.dst ≠ some t) → ∀ j x, j < i + 1 → ops[j]? = some x → x.dst ≠ some t) := by
      intro t u hne
      refine ⟨fun ⟨j, x, h1, h2, h3, h4⟩ => ⟨j, x, by omega, h2, h3, h4⟩, fun h j x hj hx => ?_⟩
      by_cases e : j = i
      · subst e; rw [ho] at hx; cases hx; exact hne
      · exact h j x (by omega) hx
    have keep : ∀ {t : Nat} {u : AV} {r : Prop}, o.dst ≠ some t → ((∃ j x, j < i ∧ ops[j]? = some x ∧ x.dst = some t ∧ u = v j) ∨ ((∀ j x, j < i → ops[j]? = some x → x.dst ≠ some t) ∧ r)) →
        ((∃ j x, j < i + 1 ∧ ops[j]? = some x ∧ x.dst = some t ∧ u = v j) ∨ ((∀ j x, j < i + 1 → ops[j]? = some x → x.dst ≠ some t) ∧ r)) := by
      intro t u r hne h
      rcases h with h | ⟨h, hr⟩
      · exact .inl ((keepS (u := u) hne).1 h)
      · exact .inr ⟨(keepS (u := u) hne).2 h, hr⟩
    cases d with
    | none =>
      have hd : R.ok (Dst.no, F i) = .ok (dd, F (i + 1)) := hd
      have e1 : dd = .no := by injection hd with h; exact (congrArg Prod.fst h).symm
      have e2 : F (i + 1) = F i := by injection hd with h; exact (congrArg Prod.snd h).symm
      subst e1
      have hl : (σ (i + 1)).l = (σ i).l := hl
      have ht : (σ (i + 1)).tm = (σ i).tm := ht
      refine ⟨by rw [e2]; exact ih.mask, by rw [e2]; exact ih.nt, by rw [e2, hl]; exact ih.grows, fun t u h1 h2 => ?_, fun k t u h1 h2 => ?_⟩
      · rw [ht] at h2; exact keep (by rw [hod]; simp) (ih.slot t u h1 h2)
      · rw [e2] at h1
        rw [hl] at h2
        obtain ⟨g1, g2⟩ := ih.near k t u h1 h2
        exact ⟨g1, keep (by rw [hod]; simp) g2⟩
    | some d =>
      obtain ⟨h1, h2⟩ := tst_eq.1 hd
      rw [bsel_eq] at h2
      split at h2
      · rename_i hm
        have e1 : dd = .slot (pathOf d) := by injection h2 with h; exact (congrArg Prod.fst h).symm
        have e2 : F (i + 1) = F i := by injection h2 with h; exact (congrArg Prod.snd h).symm
        subst e1
        have hl : (σ (i + 1)).l = (σ i).l := hl
        have ht : (σ (i + 1)).tm = Q.set (pathOf d) (some (v i)) (σ i).tm := ht
        refine ⟨by rw [e2]; exact ih.mask, by rw [e2]; exact ih.nt, by rw [e2, hl]; exact ih.grows, fun t u g1 g2 => ?_, fun k t u g1 g2 => ?_⟩
        · rw [ht, Q.get_set] at g2
          split at g2
          · rename_i e
            have := pathOf_inj e
            subst this
            cases g2
            exact .inl ⟨i, o, by omega, ho, hod, rfl⟩
          · rename_i e
            exact keep (by rw [hod]; intro e'; cases e'; exact e rfl) (ih.slot t u g1 g2)
        · rw [e2] at g1
          rw [hl] at g2
          obtain ⟨g3, g4⟩ := ih.near k t u g1 g2
          refine ⟨g3, keep ?_ g4⟩
          rw [hod]
          intro e
          cases e
          rw [ih.mask, g3] at hm; cases hm
      · rename_i hm
        generalize hi2 : idxOf d (F i).ns 0 = r at h2
        cases r with
        | ok k => cases h2
        | err _ =>
          have h2 : R.ok (Dst.loc, (⟨(F i).P, (F i).nt, (F i).mask, d :: (F i).ns⟩ : CE)) = .ok (dd, F (i + 1)) := h2
          have e1 : dd = .loc := by injection h2 with h; exact (congrArg Prod.fst h).symm
          have e2 : F (i + 1) = ⟨(F i).P, (F i).nt, (F i).mask, d :: (F i).ns⟩ := by injection h2 with h; exact (congrArg Prod.snd h).symm
          subst e1
          have hl : (σ (i + 1)).l = v i :: (σ i).l := hl
          have ht : (σ (i + 1)).tm = (σ i).tm := ht
          have hno : ∀ j : Nat, (F i).ns[j]? ≠ some d := fun j hj => by
            obtain ⟨k, hk⟩ := idxOf_some (i := 0) hj
            rw [hk] at hi2; cases hi2
          have hgr : Grows (F i) (σ i).l (F (i + 1)) (σ (i + 1)).l := by rw [e2, hl]; exact ⟨⟨[v i], [d], rfl, rfl, rfl⟩, rfl, rfl, rfl⟩
          refine ⟨by rw [e2]; exact ih.mask, by rw [e2]; exact ih.nt, ih.grows.trans hgr, fun t u g1 g2 => ?_, fun k t u g1 g2 => ?_⟩
          · rw [ht] at g2
            refine keep ?_ (ih.slot t u g1 g2)
            rw [hod]
            intro e
            cases e
            rw [ih.mask] at hm; exact hm g1
          · rw [e2] at g1
            rw [hl] at g2
            cases k with
            | zero =>
              have g1 : some d = some t := g1
              have g2 : some (v i) = some u := g2
              cases g1; cases g2
              exact ⟨by rw [← ih.mask]; simpa using hm, .inl ⟨i, o, by omega, ho, hod, rfl⟩⟩
            | succ k =>
              have g1 : (F i).ns[k]? = some t := g1
              have g2 : (σ i).l[k]? = some u := g2
              obtain ⟨g3, g4⟩ := ih.near k t u g1 g2
              exact ⟨g3, keep (by rw [hod]; intro e; cases e; exact hno k g1) g4⟩
end
end Go.AX
/- The abstract executor: regions that draw their order: one operation more. -/
namespace Go.AX
section
variable {P : Program} {X : Ext} {call : CallH} {ops : Array Oper} {σ : Nat → DSt} {F : Nat → CE} {v : Nat → AV} {al : Nat → Option (Id × AO)} {lo re : Nat → Bool} {oks : Nat → List Nat} {bs : List Nat}
structure Inv (P : Program) (ops : Array Oper) (σ : Nat → DSt) (F : Nat → CE) (v : Nat → AV) (al : Nat → Option (Id × AO)) (lo : Nat → Bool) (bs : List Nat) (ρ0 : Rho) (a0 : Act) (w0 : World) (S : Nat → Prop) (a : Act) (w : World) (ρ : Rho) (p : Nat) : Prop where
  closed : ∀ i j, S i → (bsOf bs i).testBit j = true → S j
  lt : ∀ i, S i → i < ops.size
  pn : p ≤ ops.size
  ld : ∀ b, b < ops.size → lo b = true → (S b ↔ b < p)
  hp : (p, (σ p).hp) ∈ (σ ops.size).hs
  size : a.tmps.size = (F 0).nt
  done : ∀ (j : Nat) (x : Oper) (t : Nat), S j → ops[j]? = some x → x.dst = some t → ∃ y, a.tmps[t]? = some y ∧ den ρ (v j) = some y
  still : ∀ t : Nat, (∀ (j : Nat) (x : Oper), S j → ops[j]? = some x → x.dst ≠ some t) → a.tmps[t]? = a0.tmps[t]?
  df : a.defers = a0.defers
  mem : Mem P ρ (Gat ops.size σ al p) w
  step : Step ρ0 (σ 0).hp w0 ρ (Gat ops.size σ al p) w
  undone : ∀ (j : Nat) (x : Id × AO), j < ops.size → al j = some x → ¬ S j → ρ x.1 = none ∧ Q.get x.1 (Gat ops.size σ al p).tr = some x.2
  fut : ∀ b, num (σ p).hp.nx ≤ num b → num b < num (σ ops.size).hp.nx → ρ b ≠ none → ∃ (j : Nat) (x : Id × AO), p ≤ j ∧ j < ops.size ∧ al j = some x ∧ S j ∧ b = x.1
  wf : ∀ b o, Q.get b (σ p).hp.tr = some o → num b < num (σ p).hp.nx
  plain : ∀ (j : Nat) (x : Id × AO), j < ops.size → al j = some x → S j → x.2.ro = false

def Add (S : Nat → Prop) (i : Nat) : Nat → Prop := fun j => S j ∨ j = i
theorem hs_mono (C : Ctx P X call ops σ F v al lo re oks bs) {i : Nat} : ∀ {j : Nat}, i ≤ j → j ≤ ops.size → (∀ e, e ∈ (σ i).hs → e ∈ (σ j).hs) ∧ (∀ e, e ∈ (σ i).ps → e ∈ (σ j).ps)
  | 0, h1, _ => by
    have : i = 0 := by omega
    subst this; exact ⟨fun _ h => h, fun _ h => h⟩
  | j + 1, h1, h2 => by
    by_cases e : i = j + 1
    · subst e; exact ⟨fun _ h => h, fun _ h => h⟩
    · obtain ⟨g1, g2⟩ := hs_mono C (i := i) (j := j) (by omega) (by omega)
      obtain ⟨o, ho⟩ := getOp (ops := ops) (i := j) (by omega)
      have d := C.did j o ho
      exact ⟨fun x h => d.hs x (g1 x h), fun x h => d.ps x (g2 x h)⟩
theorem Inv.tmp {ρ0 : Rho} {a0 : Act} {w0 : World} {S : Nat → Prop} {a : Act} {w : World} {ρ : Rho} {p : Nat} (C : Ctx P X call ops σ F v al lo re oks bs) (he0 : EnvOk ρ0 (F 0) (σ 0).l (σ 0).tm a0.tmps) (I : Inv P ops σ F v al lo bs ρ0 a0 w0 S a w ρ p)
    {i : Nat} {o : Oper} (ho : ops[i]? = some o) (hS : ¬ S i) (hb : ∀ j, (bsOf bs i).testBit j = true → S j) {t : Nat} (ht : t ∈ o.looksAt ops) {f : Opd} {u : AV} (hf : (F i).opd (.tmp t) = .ok f) (hu : f (σ i).l (σ i).tm = .ok u) :
    ∃ y, a.tmps[t]? = some y ∧ den ρ u = some y := by
  have hi : i < ops.size := (Array.getElem?_eq_some_iff.1 ho).1
  have hn : ∀ (k t : Nat), (F 0).ns[k]? = some t → (F 0).mask.testBit t = false := by
    intro k t hk
    have hlt := (List.getElem?_eq_some_iff.1 hk).1
    rw [← he0.len] at hlt
    exact (he0.near k t (σ 0).l[k] hk (List.getElem?_eq_getElem hlt)).1
  have src := C.src hn (i := i) (by omega)
  have fin : ∀ (r : Prop), (r → ∃ y, a0.tmps[t]? = some y ∧ den ρ0 u = some y) → ((∃ j x, j < i ∧ ops[j]? = some x ∧ x.dst = some t ∧ u = v j) ∨ ((∀ j x, j < i → ops[j]? = some x → x.dst ≠ some t) ∧ r)) → ∃ y, a.tmps[t]? = some y ∧ den ρ u = some y := by
    intro r hr h
    rcases h with ⟨j, x, h1, h2, h3, rfl⟩ | ⟨h1, h2⟩
    · have hSj : S j := by
        rcases C.wr i o t ho ht j x h2 h3 with h4 | h4
        · exact hb j h4
        · have := C.ord.less j i x h2 h4; omega
      exact I.done j x t hSj h2 h3
    · obtain ⟨y, g1, g2⟩ := hr h2
      refine ⟨y, ?_, den_mono I.step.ext g2⟩
      rw [I.still t, g1]
      intro j x hj hx hd
      by_cases hlt : j < i
      · exact h1 j x hlt hx hd
      · rcases C.wr i o t ho ht j x hx hd with h4 | h4
        · have := C.ord.less i j o ho h4; omega
        · exact hS (I.closed j i hj h4)
  have hf : bsel ((F i).mask.testBit t) (.ok (T (pathOf t))) ((idxOf t (F i).ns 0).bind fun k => .ok (L k)) = .ok f := hf
  rw [bsel_eq, src.mask] at hf
  split at hf
  · rename_i hm
    cases hf
    exact fin _ (fun h => he0.slot t u hm h) (src.slot t u hm (Q.at_eq.1 hu))
  · obtain ⟨k, h1, h2⟩ := bind_eq.1 hf
    cases h2
    obtain ⟨j, rfl, h3⟩ := idxOf_ok h1
    have hu := ofOpt_eq.1 hu
    rw [nth_eq, Nat.zero_add] at hu
    exact fin _ (fun ⟨k0, h4, h5⟩ => (he0.near k0 t u h4 h5).2) (src.near j t u h3 hu).2
theorem Inv.opds {ρ0 : Rho} {a0 : Act} {w0 : World} {S : Nat → Prop} {a : Act} {w : World} {ρ : Rho} {p : Nat} (C : Ctx P X call ops σ F v al lo re oks bs) (he0 : EnvOk ρ0 (F 0) (σ 0).l (σ 0).tm a0.tmps) (I : Inv P ops σ F v al lo bs ρ0 a0 w0 S a w ρ p)
    {i : Nat} {o : Oper} (ho : ops[i]? = some o) (hS : ¬ S i) (hb : ∀ j, (bsOf bs i).testBit j = true → S j) : OpdsOk ρ (F i) (σ i).l (σ i).tm a.eval o := by
  intro x hx f u hf hu
  have hi : i < ops.size := (Array.getElem?_eq_some_iff.1 ho).1
  cases x with
  | tmp t =>
    have ht : t ∈ o.looksAt ops := by
      unfold Oper.looksAt
      refine List.mem_append_left _ ?_
      exact List.mem_filterMap.2 ⟨.tmp t, hx, rfl⟩
    obtain ⟨y, h1, h2⟩ := I.tmp C he0 ho hS hb ht hf hu
    have : a.eval (.tmp t) = y := by
      show a.tmps.getD t undef = y
      rw [Array.getD_eq_getD_getElem?, h1]; rfl
    rw [this]; exact h2
  | const c =>
    obtain ⟨av, h1, h2⟩ := bind_eq.1 hf
    cases h2
    cases hu
    exact absV_ok h1
  | global g =>
    obtain ⟨h1, h2⟩ := tst_eq.1 hf
    cases h2
    cases hu
    rw [natBlt_eq, C.prog i (by omega)] at h1
    obtain ⟨c, hc⟩ := I.mem.glob g (Nat.lt_succ_of_lt h1)
    exact den_ptr ρ hc 0
  | func f =>
    cases hf
    cases hu
    simp only [den, denL]
    rfl
theorem wanted_core {ρ : Rho} {a : Act} {o : Oper} {j : Nat} {want : Bool} {t : Nat} {u : AV} {y : Value} (hg : o.guard = some (j, want)) (ht : ((ops[j]?).bind (·.dst)) = some t) (h1 : a.tmps[t]? = some y) (h2 : den ρ u = some y) : Region.wanted o (yielded ops a.tmps) = wantB want u := by
  have e1 : yielded ops a.tmps j = match y with
    | .bool b => some b
    | _ => none := by
    unfold yielded
    rw [ht]
    simp only [Option.bind_some, h1]
    cases y <;> rfl
  simp only [Region.wanted, hg, e1]
  cases u with
  | bool b =>
    rw [den_bool] at h2
    cases h2
    show (some b == some want) = bEq b want
    rw [bEq_eq]; rfl
  | _ =>
    cases y with
    | bool b => exact absurd (den_bool_eq h2) (by simp)
    | _ => rfl
theorem Inv.wanted {ρ0 : Rho} {a0 : Act} {w0 : World} {S : Nat → Prop} {a : Act} {w : World} {ρ : Rho} {p : Nat} (C : Ctx P X call ops σ F v al lo re oks bs) (he0 : EnvOk ρ0 (F 0) (σ 0).l (σ 0).tm a0.tmps) (I : Inv P ops σ F v al lo bs ρ0 a0 w0 S a w ρ p)
    {i : Nat} {o : Oper} (ho : ops[i]? = some o) (hS : ¬ S i) (hb : ∀ j, (bsOf bs i).testBit j = true → S j) {on : Bool} (hg : GOk ops o (F i) (σ i).l (σ i).tm on) : Region.wanted o (yielded ops a.tmps) = on := by
  rcases hg with ⟨h1, h2⟩ | ⟨j, want, t, g, u, h1, h2, h3, h4, h5⟩
  · subst h2; simp [Region.wanted, h1]
  · have ht : t ∈ o.looksAt ops := by
      unfold Oper.looksAt
      refine List.mem_append_right _ ?_
      rw [h1]
      simp only
      rw [h2]
      simp
    obtain ⟨y, g1, g2⟩ := I.tmp C he0 ho hS hb ht h3 h4
    rw [wanted_core h1 h2 g1 g2, h5]
theorem Inv.put {ρ0 : Rho} {a0 : Act} {w0 : World} {S : Nat → Prop} {a : Act} {w : World} {ρ ρ' : Rho} {p : Nat} (C : Ctx P X call ops σ F v al lo re oks bs) (he0 : EnvOk ρ0 (F 0) (σ 0).l (σ 0).tm a0.tmps) (I : Inv P ops σ F v al lo bs ρ0 a0 w0 S a w ρ p)
    {i : Nat} {o : Oper} (ho : ops[i]? = some o) (hl : ρ.le ρ') {x : Value} (hx : den ρ' (v i) = some x) :
    (a.put o.dst x).tmps.size = (F 0).nt ∧ (∀ (j : Nat) (z : Oper) (t : Nat), Add S i j → ops[j]? = some z → z.dst = some t → ∃ y, (a.put o.dst x).tmps[t]? = some y ∧ den ρ' (v j) = some y) ∧
    (∀ t : Nat, (∀ (j : Nat) (z : Oper), Add S i j → ops[j]? = some z → z.dst ≠ some t) → (a.put o.dst x).tmps[t]? = a0.tmps[t]?) ∧ (a.put o.dst x).defers = a0.defers := by
  have hi : i < ops.size := (Array.getElem?_eq_some_iff.1 ho).1
  have hn : ∀ (k t : Nat), (F 0).ns[k]? = some t → (F 0).mask.testBit t = false := by
    intro k t hk
    have hlt := (List.getElem?_eq_some_iff.1 hk).1
    rw [← he0.len] at hlt
    exact (he0.near k t (σ 0).l[k] hk (List.getElem?_eq_getElem hlt)).1
  have src := C.src hn (i := i) (by omega)
  obtain ⟨dd, hd, _, _⟩ := (C.did i o ho).dst
  have hbound : ∀ d, o.dst = some d → d < a.tmps.size := by
    intro d e
    rw [e] at hd
    obtain ⟨h1, _⟩ := tst_eq.1 hd
    rw [natBlt_eq, src.nt] at h1
    rw [I.size]; exact h1
  have get : ∀ t, (a.put o.dst x).tmps[t]? = if o.dst = some t then some x else a.tmps[t]? := by
    intro t
    cases hod : o.dst with
    | none => simp [Act.put]
    | some d =>
      rw [put_tmps a d x t (hbound d hod)]
      by_cases e : d = t
      · subst e; simp
      · rw [if_neg e, if_neg (by simpa using e)]
  refine ⟨?_, fun j z t hj hz hzd => ?_, fun t ht => ?_, by rw [put_defers]; exact I.df⟩
  · rw [← I.size]
    cases o.dst with
    | none => rfl
    | some d => show (a.tmps.setIfInBounds d x).size = _; simp
  · rw [get]
    rcases hj with hj | rfl
    · by_cases e : o.dst = some t
      · have := C.nd i j o z t ho hz e hzd
        subst this
        exact ⟨x, by rw [if_pos e], hx⟩
      · rw [if_neg e]
        obtain ⟨y, h1, h2⟩ := I.done j z t hj hz hzd
        exact ⟨y, h1, den_mono hl h2⟩
    · rw [ho] at hz
      cases hz
      exact ⟨x, by rw [if_pos hzd], hx⟩
  · rw [get, if_neg (ht i o (.inr rfl) ho)]
    exact I.still t fun j z hj hz => ht j z (.inl hj) hz
end
end Go.AX
/- The abstract executor: regions that draw their order: each kind of operation. -/
namespace Go.AX
section
variable {P : Program} {X : Ext} {call : CallH} {ops : Array Oper} {σ : Nat → DSt} {F : Nat → CE} {v : Nat → AV} {al : Nat → Option (Id × AO)} {lo re : Nat → Bool} {oks : Nat → List Nat} {bs : List Nat}
  {ρ0 : Rho} {a0 : Act} {w0 : World} {S : Nat → Prop} {a : Act} {w : World} {ρ : Rho} {p : Nat} {i : Nat} {o : Oper}

theorem Inv.gap (C : Ctx P X call ops σ F v al lo re oks bs) (I : Inv P ops σ F v al lo bs ρ0 a0 w0 S a w ρ p) (hi : i < ops.size) (hS : ¬ S i) (hb : ∀ j, (bsOf bs i).testBit j = true → S j) (hl : lo i = true) : p ≤ i ∧ ∀ j, p ≤ j → j < i → lo j = false := by
  have h1 : p ≤ i := by
    apply Nat.le_of_not_lt
    intro h
    exact hS ((I.ld i hi hl).2 h)
  refine ⟨h1, fun j g1 g2 => ?_⟩
  cases hj : lo j with
  | false => rfl
  | true =>
    have := (I.ld j (by omega) hj).1 (hb j (C.tot j i (by omega) hi hj hl g2))
    omega
theorem add_closed (I : Inv P ops σ F v al lo bs ρ0 a0 w0 S a w ρ p) (hb : ∀ j, (bsOf bs i).testBit j = true → S j) : ∀ k j, Add S i k → (bsOf bs k).testBit j = true → Add S i j := by
  intro k j hk hj
  rcases hk with hk | rfl
  · exact .inl (I.closed k j hk hj)
  · exact .inl (hb j hj)
theorem add_lt (I : Inv P ops σ F v al lo bs ρ0 a0 w0 S a w ρ p) (hi : i < ops.size) : ∀ j, Add S i j → j < ops.size := by
  intro j hj
  rcases hj with hj | rfl
  · exact I.lt j hj
  · exact hi
theorem Inv.quiet (C : Ctx P X call ops σ F v al lo re oks bs) (he0 : EnvOk ρ0 (F 0) (σ 0).l (σ 0).tm a0.tmps) (I : Inv P ops σ F v al lo bs ρ0 a0 w0 S a w ρ p) (ho : ops[i]? = some o) (hb : ∀ j, (bsOf bs i).testBit j = true → S j)
    (hq : lo i = false) (ha : al i = none) {x : Value} (hx : den ρ (v i) = some x) : Inv P ops σ F v al lo bs ρ0 a0 w0 (Add S i) (a.put o.dst x) w ρ p := by
  have hi : i < ops.size := (Array.getElem?_eq_some_iff.1 ho).1
  obtain ⟨g1, g2, g3, g4⟩ := I.put C he0 ho (Rho.le_refl ρ) hx
  refine ⟨add_closed I hb, add_lt I hi, I.pn, fun b h1 h2 => ?_, I.hp, g1, g2, g3, g4, I.mem, I.step, fun j y h1 h2 h3 => I.undone j y h1 h2 fun h => h3 (.inl h), fun b h1 hN h2 => ?_, I.wf, fun j y h1 h2 h3 => ?_⟩
  · rw [← I.ld b h1 h2]
    constructor
    · rintro (h | rfl)
      · exact h
      · rw [hq] at h2; cases h2
    · exact .inl
  · obtain ⟨j, y, e1, e2, e3, e4, e5⟩ := I.fut b h1 hN h2
    exact ⟨j, y, e1, e2, e3, .inl e4, e5⟩
  · rcases h3 with h3 | rfl
    · exact I.plain j y h1 h2 h3
    · rw [ha] at h2; cases h2
theorem Inv.off (C : Ctx P X call ops σ F v al lo re oks bs) (he0 : EnvOk ρ0 (F 0) (σ 0).l (σ 0).tm a0.tmps) (I : Inv P ops σ F v al lo bs ρ0 a0 w0 S a w ρ p) (ho : ops[i]? = some o) (hS : ¬ S i) (hb : ∀ j, (bsOf bs i).testBit j = true → S j)
    (hl : lo i = true) (ha : al i = none) (hh : (σ (i + 1)).hp = (σ i).hp) {x : Value} (hx : den ρ (v i) = some x) : Inv P ops σ F v al lo bs ρ0 a0 w0 (Add S i) (a.put o.dst x) w ρ (i + 1) := by
  have hi : i < ops.size := (Array.getElem?_eq_some_iff.1 ho).1
  obtain ⟨g1, g2, g3, g4⟩ := I.put C he0 ho (Rho.le_refl ρ) hx
  obtain ⟨hp, hgap⟩ := I.gap C hi hS hb hl
  have hG : Gat ops.size σ al p = Gat ops.size σ al (i + 1) := (C.G_eq hp (by omega) hgap).trans (Gat_same hi ha hh)
  refine ⟨add_closed I hb, add_lt I hi, by omega, fun b h1 h2 => ?_, (hs_mono C (i := i + 1) (by omega) (Nat.le_refl _)).1 _ ((C.did i o ho).lh hl), g1, g2, g3, g4, by rw [← hG]; exact I.mem, by rw [← hG]; exact I.step, fun j y h1 h2 h3 => ?_, fun b h1 hN h2 => ?_, ?_, fun j y h1 h2 h3 => ?_⟩
  · constructor
    · rintro (h | rfl)
      · have := (I.ld b h1 h2).1 h; omega
      · omega
    · intro h
      by_cases e : b = i
      · exact .inr e
      · exact .inl (hb b (C.tot b i h1 hi h2 hl (by omega)))
  · rw [← hG]; exact I.undone j y h1 h2 fun h => h3 (.inl h)
  · rw [hh] at h1
    obtain ⟨j, y, e1, e2, e3, e4, e5⟩ := I.fut b (Nat.le_trans (C.le hp (by omega)) h1) hN h2
    refine ⟨j, y, ?_, e2, e3, .inl e4, e5⟩
    apply Nat.le_of_not_lt
    intro hlt
    by_cases e : j = i
    · subst e; rw [ha] at e3; cases e3
    · have := C.al_lt e2 e3 (k := i) (by omega) (by omega)
      rw [← e5] at this; omega
  · rw [hh]; exact C.wf_eq I.wf hp (by omega) hgap
  · rcases h3 with h3 | rfl
    · exact I.plain j y h1 h2 h3
    · rw [ha] at h2; cases h2
theorem Inv.made (C : Ctx P X call ops σ F v al lo re oks bs) (he0 : EnvOk ρ0 (F 0) (σ 0).l (σ 0).tm a0.tmps) (I : Inv P ops σ F v al lo bs ρ0 a0 w0 S a w ρ p) (ho : ops[i]? = some o) (hS : ¬ S i) (hb : ∀ j, (bsOf bs i).testBit j = true → S j)
    {y : Id × AO} (ha : al i = some y) (hro : y.2.ro = false) (cap : Nat) (O : Obj) (hob : ObjOk (ρ.upd y.1 ⟨w.heap.size, 0, cap⟩) ⟨w.heap.size, 0, cap⟩ (w.alloc O) y.2) {x : Value} (hx : den (ρ.upd y.1 ⟨w.heap.size, 0, cap⟩) (v i) = some x) :
    Inv P ops σ F v al lo bs ρ0 a0 w0 (Add S i) (a.put o.dst x) (w.alloc O) (ρ.upd y.1 ⟨w.heap.size, 0, cap⟩) p := by
  have hi : i < ops.size := (Array.getElem?_eq_some_iff.1 ho).1
  obtain ⟨hu1, hu2⟩ := I.undone i y hi ha hS
  obtain ⟨hn1, hn2, hq⟩ := C.al_at hi ha
  have hle := Rho.le_upd ρ ⟨w.heap.size, 0, cap⟩ hu1
  obtain ⟨g1, g2, g3, g4⟩ := I.put C he0 ho hle hx
  have hrange : num (σ 0).hp.nx ≤ num y.1 ∧ num y.1 < num (Gat ops.size σ al p).nx := ⟨C.al_ge hi ha (Nat.zero_le _), C.al_lt hi ha hi (Nat.le_refl _)⟩
  refine ⟨add_closed I hb, add_lt I hi, I.pn, fun b h1 h2 => ?_, I.hp, g1, g2, g3, g4, I.mem.late hu2 hu1 cap O hob, I.step.late hu1 hrange cap O, fun j z h1 h2 h3 => ?_, fun b h1 hN h2 => ?_, I.wf, fun j z h1 h2 h3 => ?_⟩
  · rw [← I.ld b h1 h2]
    constructor
    · rintro (h | rfl)
      · exact h
      · rw [hq] at h2; cases h2
    · exact .inl
  · have hji : j ≠ i := fun e => h3 (.inr e)
    obtain ⟨e1, e2⟩ := I.undone j z h1 h2 fun h => h3 (.inl h)
    exact ⟨by rw [Rho.upd_other ρ _ (C.al_ne h1 hi h2 ha hji)]; exact e1, e2⟩
  · by_cases e : b = y.1
    · refine ⟨i, y, ?_, hi, ha, .inr rfl, e⟩
      apply Nat.le_of_not_lt
      intro hlt
      have := C.al_lt hi ha hlt I.pn
      rw [← e] at this; omega
    · rw [Rho.upd_other ρ _ e] at h2
      obtain ⟨j, z, e1, e2, e3, e4, e5⟩ := I.fut b h1 hN h2
      exact ⟨j, z, e1, e2, e3, .inl e4, e5⟩
  · rcases h3 with h3 | rfl
    · exact I.plain j z h1 h2 h3
    · rw [ha] at h2; cases h2; exact hro
theorem Inv.loud_mem (C : Ctx P X call ops σ F v al lo re oks bs) (I : Inv P ops σ F v al lo bs ρ0 a0 w0 S a w ρ p) (hi : i < ops.size) (hS : ¬ S i) (hb : ∀ j, (bsOf bs i).testBit j = true → S j) (hl : lo i = true) (ha : al i = none) :
    Mem P ρ (σ i).hp w ∧ Free ρ (σ i).hp (σ (i + 1)).hp := by
  obtain ⟨hp, hgap⟩ := I.gap C hi hS hb hl
  have hG := C.G_eq hp (by omega) hgap
  have hwf := C.wf_eq I.wf hp (by omega) hgap
  refine ⟨I.mem.sub (fun b ob hbo => by rw [hG, C.G_old (by omega) (hwf b ob hbo)]; exact hbo) hwf, fun b h1 h2 => ?_⟩
  cases hr : ρ b with
  | none => rfl
  | some l =>
    obtain ⟨j, y, e1, e2, e3, e4, e5⟩ := I.fut b (Nat.le_trans (C.le hp (by omega)) h1) (Nat.lt_of_lt_of_le h2 (C.le (by omega) (Nat.le_refl _))) (by simp [hr])
    have hj : j ≠ i := fun e => by subst e; rw [ha] at e3; cases e3
    rcases Nat.lt_or_gt_of_ne hj with h | h
    · have := C.al_lt e2 e3 h (by omega); rw [← e5] at this; omega
    · have := C.al_ge e2 e3 (k := i + 1) (by omega); rw [← e5] at this; omega
theorem Inv.loud (C : Ctx P X call ops σ F v al lo re oks bs) (he0 : EnvOk ρ0 (F 0) (σ 0).l (σ 0).tm a0.tmps) (I : Inv P ops σ F v al lo bs ρ0 a0 w0 S a w ρ p) (ho : ops[i]? = some o) (hS : ¬ S i) (hb : ∀ j, (bsOf bs i).testBit j = true → S j)
    (hl : lo i = true) (ha : al i = none) {ρ' : Rho} {w' : World} (hs : Step ρ (σ i).hp w ρ' (σ (i + 1)).hp w') (hm : Mem P ρ' (σ (i + 1)).hp w') {x : Value} (hx : den ρ' (v i) = some x) :
    Inv P ops σ F v al lo bs ρ0 a0 w0 (Add S i) (a.put o.dst x) w' ρ' (i + 1) := by
  have hi : i < ops.size := (Array.getElem?_eq_some_iff.1 ho).1
  obtain ⟨g1, g2, g3, g4⟩ := I.put C he0 ho hs.ext hx
  obtain ⟨hp, hgap⟩ := I.gap C hi hS hb hl
  have hG := C.G_eq hp (by omega) hgap
  have hwf := C.wf_eq I.wf hp (by omega) hgap
  have hmG : Mem P ρ (Gat ops.size σ al i) w := by rw [← hG]; exact I.mem
  have hsG : Step ρ0 (σ 0).hp w0 ρ (Gat ops.size σ al i) w := by rw [← hG]; exact I.step
  have old : ∀ b ob, Q.get b (σ i).hp.tr = some ob → Q.get b (Gat ops.size σ al i).tr = some ob := fun b ob hbo => by rw [C.G_old (by omega) (hwf b ob hbo)]; exact hbo
  -- objects still to come, that are there already
  have early : ∀ j y, i + 1 ≤ j → j < ops.size → al j = some y → ρ' y.1 = ρ y.1 := by
    intro j y h1 h2 h3
    cases hr : ρ y.1 with
    | some l => exact hs.ext _ _ hr
    | none =>
      cases hr' : ρ' y.1 with
      | none => rfl
      | some l =>
        rcases hs.dom y.1 (by simp [hr']) with h | h
        · exact absurd hr h
        · have := C.al_ge h2 h3 (k := i + 1) h1; omega
  have inI : ∀ j y, i + 1 ≤ j → j < ops.size → al j = some y → Q.get y.1 (Gat ops.size σ al i).tr = some y.2 := fun j y h1 h2 h3 => C.G_al (by omega) h2 h3
  have notI : ∀ j y, i + 1 ≤ j → j < ops.size → al j = some y → Q.get y.1 (σ i).hp.tr = none := by
    intro j y h1 h2 h3
    cases hq : Q.get y.1 (σ i).hp.tr with
    | none => rfl
    | some ob =>
      have a1 := hwf y.1 ob hq
      have a2 := C.al_ge h2 h3 (k := i) (by omega)
      omega
  have wrI : ∀ cb, Wr ρ (σ i).hp cb → Wr ρ (Gat ops.size σ al i) cb := fun cb ⟨b, ob, l, h1, h2, h3, h4⟩ => ⟨b, ob, l, old b ob h1, h2, h3, h4⟩
  have there : ∀ j y l, i + 1 ≤ j → j < ops.size → al j = some y → ρ y.1 = some l → y.2.ro = false ∧ l.cb < w.heap.size ∧ ¬ Own ρ (σ i).hp l.cb := by
    intro j y l h1 h2 h3 h4
    have hSj : S j := Classical.byContradiction fun h => by rw [(I.undone j y h2 h3 h).1] at h4; cases h4
    refine ⟨I.plain j y h2 h3 hSj, (hmG.obj y.1 y.2 l (inI j y h1 h2 h3) h4).lt, ?_⟩
    intro ⟨b, ob, l', g1, g3, g4⟩
    have hne : b ≠ y.1 := fun e => by rw [e, notI j y h1 h2 h3] at g1; cases g1
    rcases hmG.apart b y.1 ob y.2 l' l (old b ob g1) (inI j y h1 h2 h3) g3 h4 hne with h | h
    · exact h g4
    · rw [I.plain j y h2 h3 hSj] at h; cases h.2.1
  have wrOwn : ∀ cb, Wr ρ (σ i).hp cb → Own ρ (σ i).hp cb := fun cb ⟨b, ob, l, h1, _, h3, h4⟩ => ⟨b, ob, l, h1, h3, h4⟩
  have far : ∀ j y l b ob l', i + 1 ≤ j → j < ops.size → al j = some y → ρ y.1 = some l → Q.get b (σ (i + 1)).hp.tr = some ob → ρ' b = some l' → l'.cb ≠ l.cb := by
    intro j y l b ob l' h1 h2 h3 h4 h5 h6 e
    obtain ⟨t1, t2, t3⟩ := there j y l h1 h2 h3 h4
    rcases hs.own l'.cb ⟨b, ob, l', h5, h6, rfl⟩ with h | h
    · rw [e] at h; exact t3 h
    · omega
  refine ⟨add_closed I hb, add_lt I hi, by omega, fun b h1 h2 => ?_, (hs_mono C (i := i + 1) (by omega) (Nat.le_refl _)).1 _ ((C.did i o ho).lh hl), g1, g2, g3, g4, ?_, ?_, fun j y h1 h2 h3 => ?_, fun b h1 hN h2 => ?_, hm.wf, fun j y h1 h2 h3 => ?_⟩
  · constructor
    · rintro (h | rfl)
      · have := (I.ld b h1 h2).1 h; omega
      · omega
    · intro h
      by_cases e : b = i
      · exact .inr e
      · exact .inl (hb b (C.tot b i h1 hi h2 hl (by omega)))
  · refine ⟨fun b ob l h1 h2 => ?_, fun b b' ob ob' l l' h1 h2 h3 h4 h5 => ?_, hm.glob, fun b ob h1 => ?_⟩
    · rcases C.G_inv (p := i + 1) (by omega) h1 with ⟨j, y, e1, e2, e3, rfl, rfl⟩ | ⟨_, e1⟩
      · rw [early j y e1 e2 e3] at h2
        obtain ⟨t1, t2, t3⟩ := there j y l e1 e2 e3 h2
        exact ObjOk.mono hs.ext (hs.frame l.cb t2 fun h => t3 (wrOwn _ h)) (hmG.obj y.1 y.2 l (inI j y e1 e2 e3) h2)
      · exact hm.obj b ob l e1 h2
    · rcases C.G_inv (p := i + 1) (by omega) h1 with ⟨j, y, e1, e2, e3, rfl, rfl⟩ | ⟨_, e1⟩ <;> rcases C.G_inv (p := i + 1) (by omega) h2 with ⟨j', y', f1, f2, f3, rfl, rfl⟩ | ⟨_, f1⟩
      · rw [early j y e1 e2 e3] at h3
        rw [early j' y' f1 f2 f3] at h4
        exact hmG.apart y.1 y'.1 y.2 y'.2 l l' (inI j y e1 e2 e3) (inI j' y' f1 f2 f3) h3 h4 h5
      · rw [early j y e1 e2 e3] at h3
        exact .inl fun e => far j y l b' ob' l' e1 e2 e3 h3 f1 h4 e.symm
      · rw [early j' y' f1 f2 f3] at h4
        exact .inl (far j' y' l' b ob l f1 f2 f3 h4 e1 h3)
      · exact hm.apart b b' ob ob' l l' e1 f1 h3 h4 h5
    · rcases C.G_inv (p := i + 1) (by omega) h1 with ⟨j, y, e1, e2, e3, rfl, rfl⟩ | ⟨_, e1⟩
      · exact C.al_lt e2 e3 (k := ops.size) e2 (Nat.le_refl _)
      · exact Nat.lt_of_lt_of_le (hm.wf b ob e1) (C.le (by omega) (Nat.le_refl _))
  · have ownG : ∀ cb, Own ρ (σ i).hp cb → Own ρ (Gat ops.size σ al i) cb := fun cb ⟨b, ob, l, h1, h3, h4⟩ => ⟨b, ob, l, old b ob h1, h3, h4⟩
    refine ⟨Rho.le_trans hsG.ext hs.ext, fun b hb' => ?_, C.le (Nat.zero_le _) (Nat.le_refl _), hs.os.trans hsG.os, hs.tape.trans hsG.tape, hs.output.trans hsG.output, Nat.le_trans hsG.size hs.size, fun cb hcb hw => ?_, fun cb hcb => ?_, fun cb hcb => ?_, fun b hb' hn => ?_⟩
    · rcases hs.dom b hb' with h | h
      · exact hsG.dom b h
      · exact .inr ⟨Nat.le_trans (C.le (Nat.zero_le i) (by omega)) h.1, Nat.lt_of_lt_of_le h.2 (C.le (by omega) (Nat.le_refl _))⟩
    · rw [hs.frame cb (Nat.lt_of_lt_of_le hcb hsG.size) fun h => ?_, hsG.frame cb hcb hw]
      rcases hsG.wr cb (wrI cb h) with h1 | h1
      · exact hw h1
      · omega
    · obtain ⟨b, ob, l, h1, h2, h3, rfl⟩ := hcb
      rcases C.G_inv (p := i + 1) (by omega) h1 with ⟨j, y, e1, e2, e3, rfl, rfl⟩ | ⟨_, e1⟩
      · rw [early j y e1 e2 e3] at h3
        exact hsG.wr _ ⟨y.1, y.2, l, inI j y e1 e2 e3, h2, h3, rfl⟩
      · rcases hs.wr l.cb ⟨b, ob, l, e1, h2, h3, rfl⟩ with h | h
        · exact hsG.wr _ (wrI _ h)
        · exact .inr (Nat.le_trans hsG.size h)
    · obtain ⟨b, ob, l, h1, h3, rfl⟩ := hcb
      rcases C.G_inv (p := i + 1) (by omega) h1 with ⟨j, y, e1, e2, e3, rfl, rfl⟩ | ⟨_, e1⟩
      · rw [early j y e1 e2 e3] at h3
        exact hsG.own _ ⟨y.1, y.2, l, inI j y e1 e2 e3, h3, rfl⟩
      · rcases hs.own l.cb ⟨b, ob, l, e1, h3, rfl⟩ with h | h
        · exact hsG.own _ (ownG _ h)
        · exact .inr (Nat.le_trans hsG.size h)
    · have hno : ∀ j y, i ≤ j → j < ops.size → al j = some y → y.1 ≠ b := fun j y h1 h2 h3 e => hn (by
        rw [← e]
        exact ⟨C.al_ge h2 h3 (Nat.zero_le _), C.al_lt h2 h3 (k := ops.size) h2 (Nat.le_refl _)⟩)
      have k1 : Q.get b (Gat ops.size σ al (i + 1)).tr = Q.get b (σ (i + 1)).hp.tr := addAl_no _ _ _ fun j y h1 h2 h3 => hno j y (by omega) (by omega) h3
      have k2 : Q.get b (Gat ops.size σ al i).tr = Q.get b (σ i).hp.tr := addAl_no _ _ _ fun j y h1 h2 h3 => hno j y h1 (by omega) h3
      have hρ : ρ b = none := by
        cases hr : ρ b with
        | none => rfl
        | some l =>
          rcases hsG.dom b (by simp [hr]) with h | h
          · exact absurd hb' h
          · exact absurd h hn
      rw [k1, hs.keeps b hρ (fun h => hn ⟨Nat.le_trans (C.le (Nat.zero_le i) (by omega)) h.1, Nat.lt_of_lt_of_le h.2 (C.le (by omega) (Nat.le_refl _))⟩), ← k2, hsG.keeps b hb' hn]
  · have hji : j ≠ i := fun e => by subst e; rw [ha] at h2; cases h2
    obtain ⟨e1, e2⟩ := I.undone j y h1 h2 fun h => h3 (.inl h)
    rw [hG] at e2
    have hout : ¬ (num (σ i).hp.nx ≤ num y.1 ∧ num y.1 < num (σ (i + 1)).hp.nx) := by
      rcases Nat.lt_or_gt_of_ne hji with h | h
      · have := C.al_lt h1 h2 h (by omega); omega
      · have := C.al_ge h1 h2 (k := i + 1) (by omega); omega
    refine ⟨?_, ?_⟩
    · cases hr' : ρ' y.1 with
      | none => rfl
      | some l =>
        rcases hs.dom y.1 (by simp [hr']) with h | h
        · exact absurd e1 h
        · exact absurd h hout
    · by_cases hlt : j < i
      · have b1 := C.al_lt h1 h2 hlt (by omega)
        have b2 := C.al_lt h1 h2 (k := i + 1) (by omega) (by omega)
        rw [C.G_old (by omega) b2, hs.keeps y.1 e1 hout, ← C.G_old (by omega) b1]
        exact e2
      · exact C.G_al (by omega) h1 h2
  · have hρ : ρ b ≠ none := by
      rcases hs.dom b h2 with h | h
      · exact h
      · omega
    obtain ⟨j, y, e1, e2, e3, e4, e5⟩ := I.fut b (Nat.le_trans (Nat.le_trans (C.le hp (by omega)) (C.mono i hi)) h1) hN hρ
    refine ⟨j, y, ?_, e2, e3, .inl e4, e5⟩
    apply Nat.le_of_not_lt
    intro hlt
    have := C.al_lt e2 e3 hlt (by omega)
    rw [← e5] at this; omega
  · rcases h3 with h3 | rfl
    · exact I.plain j y h1 h2 h3
    · rw [ha] at h2; cases h2
end
end Go.AX
/- The abstract executor: regions that draw their order: the whole. -/
namespace Go.AX
section
variable {P : Program} {X : Ext} {call : CallH} {ops : Array Oper} {σ : Nat → DSt} {F : Nat → CE} {v : Nat → AV} {al : Nat → Option (Id × AO)} {lo re : Nat → Bool} {oks : Nat → List Nat} {bs : List Nat}
  {ρ0 : Rho} {a0 : Act} {w0 : World} {S : Nat → Prop} {a : Act} {w : World} {ρ : Rho} {p : Nat} {i : Nat} {o : Oper}
theorem Inv.one (hc : CallOk P X call) (C : Ctx P X call ops σ F v al lo re oks bs) (he0 : EnvOk ρ0 (F 0) (σ 0).l (σ 0).tm a0.tmps) (I : Inv P ops σ F v al lo bs ρ0 a0 w0 S a w ρ p) (hi : i < ops.size) (hS : ¬ S i) (hb : ∀ j, (bsOf bs i).testBit j = true → S j)
    {K : Act → World → Prop} {Qx : Exit → Act → World → Prop} (hK : ∀ a' w' ρ' p', Inv P ops σ F v al lo bs ρ0 a0 w0 (Add S i) a' w' ρ' p' → K a' w') : wpOp P ops Qx i K a w := by
  obtain ⟨o, ho⟩ := getOp hi
  unfold wpOp
  rw [ho]
  simp only
  have hop := I.opds C he0 ho hS hb
  have still : ∀ {x : Value}, al i = none → (σ (i + 1)).hp = (σ i).hp → den ρ (v i) = some x → K (a.put o.dst x) w := by
    intro x ha hh hx
    cases hl : lo i with
    | true => exact hK _ _ _ _ (I.off C he0 ho hS hb hl ha hh hx)
    | false => exact hK _ _ _ _ (I.quiet C he0 ho hb hl ha hx)
  rcases (C.did i o ho).how with ⟨h1, h2, h3, h4⟩ | ⟨h1, h2, h3, f, h4, h5⟩ | ⟨h1, h2, h3, h4, f, h5, h6⟩ | ⟨h1, h2, f, ob, h3, h4, h5, h6⟩ | ⟨h1, h2, h3, f, h4, h5⟩
  · rw [I.wanted C he0 ho hS hb h2, if_neg (by simp)]
    exact still h1 h4 (by rw [h3]; exact den_undef ρ)
  · rw [I.wanted C he0 ho hS hb h2, if_pos rfl]
    obtain ⟨x, g1, g2⟩ := h4 ρ (σ i).l (σ i).tm a.eval w (v i) hop h5
    refine .inl ?_
    show Oper.upon P o a K Qx _
    rw [g2, Oper.upon_value]
    exact still h1 h3 g1
  · rw [I.wanted C he0 ho hS hb h2, if_pos rfl]
    have hok : p ∈ oks i := C.ok i p hi h4 I.pn fun b hbn hbl => ⟨fun h => (I.ld b hbn hbl).1 (hb b h), fun h hlt => hS (I.closed b i ((I.ld b hbn hbl).2 hlt) h)⟩
    have hm := (hs_mono C (i := i + 1) (j := ops.size) (by omega) (Nat.le_refl _)).2 _ h6
    obtain ⟨u, g1, g2⟩ := agree_mem C.ag hm I.hp hok
    have := avSame_eq g2
    simp only at this g1
    rw [← this] at g1
    have hmem : Mem P ρ (σ p).hp w := I.mem.sub (fun b ob hbo => by rw [C.G_old I.pn (I.wf b ob hbo)]; exact hbo) I.wf
    obtain ⟨x, e1, e2⟩ := h5 ρ (σ i).l (σ i).tm (σ p).hp a.eval w (v i) hmem hop g1
    refine .inl ?_
    show Oper.upon P o a K Qx _
    rw [e2, Oper.upon_value]
    exact still h1 h3 e1
  · rw [I.wanted C he0 ho hS hb h1, if_pos rfl]
    obtain ⟨e1, _⟩ := I.undone i _ hi h6 hS
    obtain ⟨x, O, cap, g1, g2, g3, g4⟩ := h3 ρ (σ i).l (σ i).tm (σ i).hp.nx a.eval w (v i) ob hop e1 h4
    refine .inl ?_
    show Oper.upon P o a K Qx _
    rw [g1, Oper.upon_value]
    exact hK _ _ _ _ (I.made C he0 ho hS hb h6 g2 cap O g4 g3)
  · rw [I.wanted C he0 ho hS hb h2, if_pos rfl]
    obtain ⟨e1, e2⟩ := I.loud_mem C hi hS hb h3 h1
    exact .inl (h4 call hc ρ (σ i).l (σ i).tm (σ i).hp w a (v i) (σ (i + 1)).hp e1 e2 hop h5 K Qx fun ρ' w' x hs hm hx => hK _ _ _ _ (I.loud C he0 ho hS hb h3 h1 hs hm hx))
def Lst (listed : Array Bool) : Nat → Prop := fun j => listed[j]? = some true
theorem ready_mem {listed : Array Bool} {i : Nat} (_hs : listed.size = ops.size) (h : i ∈ Region.ready .any ops listed) : ∃ o, ops[i]? = some o ∧ ¬ Lst listed i ∧ ∀ e ∈ o.after.toList, Region.binds .any e = true → Lst listed e.on := by
  unfold Region.ready at h
  rw [List.mem_filter] at h
  obtain ⟨h1, h2⟩ := h
  have hi : i < ops.size := by simpa using h1
  obtain ⟨o, ho⟩ := getOp hi
  rw [Bool.and_eq_true, ho] at h2
  refine ⟨o, ho, fun hl => ?_, fun e he hb => ?_⟩
  · have h3 := h2.1
    unfold Lst at hl
    rw [Array.getD_eq_getD_getElem?, hl] at h3
    cases h3
  · have h3 : (o.after.all fun e => !Region.binds .any e || listed.getD e.on false) = true := h2.2
    rw [Array.all_eq_true'] at h3
    have h4 := h3 e (Array.mem_toList_iff.1 he)
    rw [hb] at h4
    have h5 : listed.getD e.on false = true := h4
    rw [Array.getD_eq_getD_getElem?] at h5
    unfold Lst
    cases hq : listed[e.on]? with
    | none => rw [hq] at h5; cases h5
    | some b => rw [hq] at h5; exact congrArg some h5
theorem ready_nil (hord : OrdOk ops bs) {listed : Array Bool} (hs : listed.size = ops.size) (h : Region.ready .any ops listed = []) : ∀ i, i < ops.size → Lst listed i := by
  intro i
  induction i using Nat.strongRecOn with
  | ind i ih =>
    intro hi
    apply Classical.byContradiction
    intro hn
    obtain ⟨o, ho⟩ := getOp hi
    have hmem : i ∈ Region.ready .any ops listed := by
      unfold Region.ready
      rw [List.mem_filter]
      refine ⟨by simpa using hi, ?_⟩
      rw [Bool.and_eq_true, ho]
      refine ⟨?_, ?_⟩
      · have hlt : i < listed.size := by omega
        have : listed[i] ≠ true := fun e => hn (by unfold Lst; rw [Array.getElem?_eq_getElem hlt, e])
        rw [Array.getD_eq_getD_getElem?, Array.getElem?_eq_getElem hlt]
        simpa using this
      · show (o.after.all fun e => !Region.binds .any e || listed.getD e.on false) = true
        rw [Array.all_eq_true']
        intro e he
        cases hb : Region.binds .any e with
        | false => rfl
        | true =>
          have hlt := hord.lt i o e ho (Array.mem_toList_iff.2 he) hb
          have := ih e.on hlt (by omega)
          unfold Lst at this
          rw [Array.getD_eq_getD_getElem?, this]
          rfl
    rw [h] at hmem
    cases hmem
theorem any_ok (hc : CallOk P X call) (C : Ctx P X call ops σ F v al lo re oks bs) (he0 : EnvOk ρ0 (F 0) (σ 0).l (σ 0).tm a0.tmps) {Qx : Exit → Act → World → Prop} (hQ : ∀ a w ρ p, Inv P ops σ F v al lo bs ρ0 a0 w0 (fun j => j < ops.size) a w ρ p → Qx .normal a w) :
    ∀ (fuel : Nat) (listed : Array Bool) (a : Act) (w : World) (ρ : Rho) (p : Nat), listed.size = ops.size → listed.toList.countP (· == false) ≤ fuel → Inv P ops σ F v al lo bs ρ0 a0 w0 (Lst listed) a w ρ p → wpAny P .any ops Qx fuel listed a w := by
  have fin : ∀ (listed : Array Bool) (a : Act) (w : World) (ρ : Rho) (p : Nat), listed.size = ops.size → Region.ready .any ops listed = [] → Inv P ops σ F v al lo bs ρ0 a0 w0 (Lst listed) a w ρ p → Qx .normal a w := by
    intro listed a w ρ p hs hr I
    have hall := ready_nil C.ord hs hr
    have : Lst listed = fun j => j < ops.size := funext fun j => propext ⟨fun h => I.lt j h, hall j⟩
    rw [this] at I
    exact hQ a w ρ p I
  intro fuel
  induction fuel with
  | zero =>
    intro listed a w ρ p hs hcnt I
    have hr : Region.ready .any ops listed = [] := by
      rw [List.eq_nil_iff_forall_not_mem]
      intro i hi
      obtain ⟨o, ho, hn, _⟩ := ready_mem hs hi
      have hlt : i < listed.size := by rw [hs]; exact (Array.getElem?_eq_some_iff.1 ho).1
      have hf : listed[i] = false := by
        cases hq : listed[i] with
        | false => rfl
        | true => exact absurd (by unfold Lst; rw [Array.getElem?_eq_getElem hlt, hq]) hn
      have : 0 < listed.toList.countP (· == false) := List.countP_pos_iff.2 ⟨listed[i], by simp, by simp [hf]⟩
      omega
    exact ⟨hr, fin listed a w ρ p hs hr I⟩
  | succ fuel ih =>
    intro listed a w ρ p hs hcnt I
    refine ⟨fun hr => fin listed a w ρ p hs hr I, fun i hi => ?_⟩
    obtain ⟨o, ho, hn, hedge⟩ := ready_mem hs hi
    have hio : i < ops.size := (Array.getElem?_eq_some_iff.1 ho).1
    have hlt : i < listed.size := by rw [hs]; exact hio
    have hb : ∀ j, (bsOf bs i).testBit j = true → Lst listed j := by
      intro j hj
      obtain ⟨e, he, hbd, hh⟩ := (C.ord.bit i o j ho).1 hj
      rcases hh with rfl | hh
      · exact hedge e he hbd
      · exact I.closed e.on j (hedge e he hbd) hh
    refine I.one hc C he0 hio hn hb fun a' w' ρ' p' I' => ?_
    refine ih _ a' w' ρ' p' (by simpa using hs) ?_ ?_
    · have hf : listed[i] = false := by
        cases hq : listed[i] with
        | false => rfl
        | true => exact absurd (by unfold Lst; rw [Array.getElem?_eq_getElem hlt, hq]) hn
      have hpos : 0 < listed.toList.countP (· == false) := List.countP_pos_iff.2 ⟨listed[i], by simp, by simp [hf]⟩
      rw [Array.toList_setIfInBounds, List.countP_set (by simpa using hlt)]
      have h1 : (listed.toList[i]'(by simpa using hlt) == false) = true := by simp [hf]
      rw [if_pos h1, if_neg (by simp)]
      omega
    · have : Lst (listed.setIfInBounds i true) = Add (Lst listed) i := by
        funext j
        apply propext
        unfold Lst Add
        rw [Array.getElem?_setIfInBounds]
        by_cases e : i = j
        · subst e; simp [hlt]
        · rw [if_neg e]
          constructor
          · exact .inl
          · rintro (h | h)
            · exact h
            · exact absurd h.symm e
      rw [this]; exact I'
theorem draw_any (hc : CallOk P X call) {E E1 : CE} {as : List AOper} (h1 : E.opers ops ops.toList = .ok (as, E1)) (hdo : drawOk ops (befs ops.toList []) (loudsOf as 0) = true) (hP : E.P = P) {ρ : Rho} {s : St} {a : Act} {w : World} {s' : St} {Qx : Exit → Act → World → Prop} (st : StOk P ρ E s a w)
    (hr : runA call (.draw (drawOpers (befs ops.toList []) (loudsOf as 0) (len as) as 0)) s = .norm s') (hf : Free ρ s.hp s'.hp) (hq : ∀ ρ' a' w', Step ρ s.hp w ρ' s'.hp w' → StOk P ρ' E1 s' a' w' → Grows E s.l E1 s'.l → Qx .normal a' w') :
    wpAny P .any ops Qx ops.size (Array.replicate ops.size false) a { w with drawn := w.drawn + 1 } := by
  obtain ⟨hlen0, F, hF0, hFn, hF⟩ := opers_trace ops.toList E _ as h1
  have hlen : as.length = ops.size := by rw [hlen0]; exact Array.length_toList
  rw [Array.length_toList] at hFn
  have hr : R.rec (motive := fun _ => CR) (fun t : DSt => CR.norm ⟨t.l, t.tm, t.hp, s.df⟩) CR.err (runD call (drawOpers (befs ops.toList []) (loudsOf as 0) (len as) as 0) s.l s.tm s.hp) = .norm s' := hr
  obtain ⟨t, hrun, ht⟩ := rec_norm hr
  cases ht
  obtain ⟨t1, hops, hag⟩ := bind_eq.1 hrun
  obtain ⟨_, hag, ht1⟩ := bind_eq.1 hag
  cases ht1
  obtain ⟨σ, hσ0, hσn, hσ⟩ := opsD_trace _ _ _ hops
  rw [drawOpers_length, hlen] at hσn
  rw [len_eq, hlen] at hσ
  have hord := ordOk hdo
  -- what is where
  have at_ : ∀ (i : Nat) (o : Oper), ops[i]? = some o → ∃ ao, as[i]? = some ao ∧ (F i).oper ops o = .ok (ao, F (i + 1)) ∧ operD call ⟨ao, i, bsel ao.reads ((List.range (ops.size + 1)).filter (oksAt (befs ops.toList []) (loudsOf as 0) i)) []⟩ (σ i) = .ok (σ (i + 1)) := by
    intro i o ho
    obtain ⟨ao, e1, e2⟩ := hF i o (by simpa using ho)
    have e3 := drawOpers_get (befs ops.toList []) (loudsOf as 0) ops.size as 0 i ao e1
    rw [Nat.zero_add] at e3
    exact ⟨ao, e1, e2, hσ i _ e3⟩
  have hprog : ∀ i, i ≤ ops.size → (F i).P = P := by
    intro i
    induction i with
    | zero => intro _; rw [hF0]; exact hP
    | succ i ih =>
      intro hi
      obtain ⟨o, ho⟩ := getOp (ops := ops) (i := i) (by omega)
      obtain ⟨ao, _, e2, _⟩ := at_ i o ho
      exact (oper_prog e2).trans (ih (by omega))
  let lo : Nat → Bool := fun i => ((as[i]?).map AOper.loud).getD false
  let re : Nat → Bool := fun i => ((as[i]?).map AOper.reads).getD false
  let oks : Nat → List Nat := fun i => bsel (re i) ((List.range (ops.size + 1)).filter (oksAt (befs ops.toList []) (loudsOf as 0) i)) []
  have hex : ∀ i : Nat, ∃ x : AV × Option (Id × AO), ∀ o, ops[i]? = some o → Did P X call ops o (F i) (F (i + 1)) (σ i) (σ (i + 1)) i (lo i) (re i) (oks i) x.1 x.2 := by
    intro i
    by_cases hi : i < ops.size
    · obtain ⟨o, ho⟩ := getOp hi
      obtain ⟨ao, e1, e2, e3⟩ := at_ i o ho
      obtain ⟨v, al, d⟩ := did_operD (X := X) (hprog i (by omega)) e2 e3
      refine ⟨(v, al), fun o' ho' => ?_⟩
      rw [ho] at ho'
      cases ho'
      have l1 : lo i = ao.loud := by simp only [lo, e1, Option.map_some, Option.getD_some]
      have l2 : re i = ao.reads := by simp only [re, e1, Option.map_some, Option.getD_some]
      simp only [oks]
      rw [l1, l2]
      exact d
    · exact ⟨(.undef, none), fun o ho => absurd (Array.getElem?_eq_some_iff.1 ho).1 hi⟩
  let v : Nat → AV := fun i => (Classical.choose (hex i)).1
  let al : Nat → Option (Id × AO) := fun i => (Classical.choose (hex i)).2
  have hloud : ∀ b, b < ops.size → (lo b = true ↔ b ∈ loudsOf as 0) := by
    intro b hb
    constructor
    · intro h
      cases hq : as[b]? with
      | none => simp only [lo, hq, Option.map_none, Option.getD_none] at h; cases h
      | some x =>
        simp only [lo, hq, Option.map_some, Option.getD_some] at h
        have := louds_mem as 0 b x hq h
        rw [Nat.zero_add] at this; exact this
    · intro h
      obtain ⟨k, x, e1, e2, e3⟩ := louds_of as 0 b h
      rw [Nat.zero_add] at e1
      subst e1
      simp only [lo, e2, Option.map_some, Option.getD_some]; exact e3
  unfold drawOk at hdo
  rw [band_eq, band_eq, Bool.and_eq_true, Bool.and_eq_true, decide_eq_true_eq] at hdo
  obtain ⟨hd1, hd2, hd3⟩ := hdo
  have C : Ctx P X call ops σ F v al lo re oks (befs ops.toList []) := by
    refine ⟨fun i o ho => Classical.choose_spec (hex i) o ho, hprog, hord, fun i o tt ho htt j x hx hxd => ?_, fun i j x y tt hx hy hxd hyd => ?_, fun b c hb hcc hlb hlc hlt => ?_, fun i q hi hre hq' hall => ?_, by rw [hσn]; exact hag, by rw [hσ0]; exact List.mem_cons_self, fun i hi => ?_⟩
    · have g1 := List.all_eq_true.1 hd1 (o, i) (by rw [List.mem_zipIdx_iff_getElem?]; simpa using ho)
      simp only [band_eq, Bool.and_eq_true] at g1
      have g2 := List.all_eq_true.1 g1.2 tt htt
      have g3 := List.all_eq_true.1 g2 (x, j) (by rw [List.mem_zipIdx_iff_getElem?]; simpa using hx)
      simp only [hxd, bor_eq, bnot_eq, Bool.or_eq_true] at g3
      rcases g3 with g3 | g3
      · have e : Nat.beq tt tt = true := by simp
        rw [e] at g3; cases g3
      · exact g3
    · have gen : ∀ (l : List Oper) (i j : Nat) (x y : Oper), (l.filterMap (·.dst)).Nodup → l[i]? = some x → l[j]? = some y → x.dst = some tt → y.dst = some tt → i = j := by
        intro l
        induction l with
        | nil => intro i j x y _ h; simp at h
        | cons z l ih =>
          intro i j x y hn hx hy hxd hyd
          have hmem : ∀ (k : Nat) (u : Oper), l[k]? = some u → u.dst = some tt → tt ∈ l.filterMap (·.dst) := fun k u hu hud => List.mem_filterMap.2 ⟨u, List.mem_of_getElem? hu, hud⟩
          have htail : (l.filterMap (·.dst)).Nodup := by
            cases hz : z.dst with
            | none => rw [List.filterMap_cons_none hz] at hn; exact hn
            | some d => rw [List.filterMap_cons_some hz] at hn; exact (List.nodup_cons.1 hn).2
          cases i with
          | zero =>
            simp at hx; subst hx
            rw [List.filterMap_cons_some hxd] at hn
            cases j with
            | zero => rfl
            | succ j => exact absurd (hmem j y (by simpa using hy) hyd) (List.nodup_cons.1 hn).1
          | succ i =>
            cases j with
            | zero =>
              simp at hy; subst hy
              rw [List.filterMap_cons_some hyd] at hn
              exact absurd (hmem i x (by simpa using hx) hxd) (List.nodup_cons.1 hn).1
            | succ j => rw [ih i j x y htail (by simpa using hx) (by simpa using hy) hxd hyd]
      exact gen ops.toList i j x y hd2 (by simpa using hx) (by simpa using hy) hxd hyd
    · have g1 := List.all_eq_true.1 (List.all_eq_true.1 hd3 b ((hloud b hb).1 hlb)) c ((hloud c hcc).1 hlc)
      rw [bor_eq, bnot_eq, Bool.or_eq_true] at g1
      rcases g1 with g1 | g1
      · have e : Nat.blt b c = true := by rw [natBlt_eq]; exact hlt
        rw [e] at g1; cases g1
      · exact g1
    · simp only [oks, hre]
      rw [bsel_eq, if_pos rfl, List.mem_filter]
      refine ⟨by simp; omega, ?_⟩
      unfold oksAt
      rw [List.all_eq_true]
      intro b hb
      obtain ⟨k, x, e1, e2, e3⟩ := louds_of as 0 b hb
      rw [Nat.zero_add] at e1
      subst e1
      have hbn : b < ops.size := by have := (List.getElem?_eq_some_iff.1 e2).1; omega
      obtain ⟨g1, g2⟩ := hall b hbn ((hloud b hbn).2 hb)
      rw [band_eq, bor_eq, bor_eq, bnot_eq, bnot_eq, bnot_eq, Bool.and_eq_true, Bool.or_eq_true, Bool.or_eq_true, natBlt_eq, Bool.not_eq_true', Bool.not_eq_true', Bool.not_eq_true']
      refine ⟨?_, ?_⟩
      · cases hq2 : (bsOf (befs ops.toList []) i).testBit b with
        | false => exact .inl rfl
        | true => exact .inr (g1 hq2)
      · cases hq2 : (bsOf (befs ops.toList []) b).testBit i with
        | false => exact .inl rfl
        | true =>
          refine .inr ?_
          have := g2 hq2
          rw [natBlt_dec]; simpa using this
    · obtain ⟨o, ho⟩ := getOp hi
      obtain ⟨ao, _, e2, e3⟩ := at_ i o ho
      exact operD_mono (oper_mono hc.mono e2) e3
  have hs0 : (σ 0).hp = s.hp ∧ (σ 0).l = s.l ∧ (σ 0).tm = s.tm := by rw [hσ0]; exact ⟨rfl, rfl, rfl⟩
  have he0 : EnvOk ρ (F 0) (σ 0).l (σ 0).tm a.tmps := by rw [hF0, hs0.2.1, hs0.2.2]; exact st.env
  have hN : (σ ops.size).hp = t.hp := by rw [hσn]
  have hf : Free ρ s.hp t.hp := hf
  let wd : World := { w with drawn := w.drawn + 1 }
  obtain ⟨m1, s1⟩ := st.mem.drawn (w' := wd) ⟨rfl, rfl, rfl, rfl⟩
  have free : ∀ (j : Nat) (y : Id × AO), j < ops.size → al j = some y → ρ y.1 = none := by
    intro j y hj hy
    refine hf y.1 ?_ ?_
    · have := C.al_ge hj hy (Nat.zero_le j)
      rw [hs0.1] at this; exact this
    · have := C.al_lt hj hy (k := ops.size) hj (Nat.le_refl _)
      rw [hN] at this; exact this
  have wf0 : ∀ b o, Q.get b (σ 0).hp.tr = some o → num b < num (σ 0).hp.nx := by rw [hs0.1]; exact m1.wf
  have hGi : ∀ b o, Q.get b (Gat ops.size σ al 0).tr = some o → ρ b = none ∨ Q.get b s.hp.tr = some o := by
    intro b o hb
    rcases C.G_inv (Nat.zero_le _) hb with ⟨j, y, _, e2, e3, rfl, rfl⟩ | ⟨_, e1⟩
    · exact .inl (free j y e2 e3)
    · rw [hs0.1] at e1; exact .inr e1
  have hgo : ∀ b o l, Q.get b (Gat ops.size σ al 0).tr = some o → ρ b = some l → Q.get b s.hp.tr = some o := by
    intro b o l h5 h6
    rcases hGi b o h5 with h7 | h7
    · rw [h7] at h6; cases h6
    · exact h7
  have hmG : Mem P ρ (Gat ops.size σ al 0) wd := by
    refine ⟨fun b o l h5 h6 => m1.obj b o l (hgo b o l h5 h6) h6, fun b b' o o' l l' h5 h6 h7 h8 h9 => m1.apart b b' o o' l l' (hgo b o l h5 h7) (hgo b' o' l' h6 h8) h7 h8 h9, m1.glob, fun b o h5 => ?_⟩
    rcases C.G_inv (Nat.zero_le _) h5 with ⟨j, y, _, e2, e3, rfl, rfl⟩ | ⟨_, e1⟩
    · exact C.al_lt e2 e3 (k := ops.size) e2 (Nat.le_refl _)
    · exact Nat.lt_of_lt_of_le (wf0 b o e1) (C.le (Nat.zero_le _) (Nat.le_refl _))
  have hsG : Step ρ (σ 0).hp wd ρ (Gat ops.size σ al 0) wd := by
    refine ⟨Rho.le_refl _, fun _ h => .inl h, C.le (Nat.zero_le _) (Nat.le_refl _), rfl, rfl, rfl, Nat.le_refl _, fun _ _ _ => rfl, fun cb hcb => ?_, fun cb hcb => ?_, fun b hb hn => ?_⟩
    · obtain ⟨b, o, l, h5, h6, h7, h8⟩ := hcb
      exact .inl ⟨b, o, l, by rw [hs0.1]; exact hgo b o l h5 h7, h6, h7, h8⟩
    · obtain ⟨b, o, l, h5, h7, h8⟩ := hcb
      exact .inl ⟨b, o, l, by rw [hs0.1]; exact hgo b o l h5 h7, h7, h8⟩
    · exact addAl_no _ _ _ fun j y h5 h6 h7 e => hn (by
        rw [← e]
        exact ⟨C.al_ge (by omega) h7 (Nat.zero_le _), C.al_lt (by omega) h7 (k := ops.size) (by omega) (Nat.le_refl _)⟩)
  have hInv : Inv P ops σ F v al lo (befs ops.toList []) ρ a wd (Lst (Array.replicate ops.size false)) a wd ρ 0 := by
    have hno : ∀ j, ¬ Lst (Array.replicate ops.size false) j := by
      intro j hj
      unfold Lst at hj
      rw [Array.getElem?_replicate] at hj
      split at hj <;> cases hj
    refine ⟨fun i j h => absurd h (hno i), fun i h => absurd h (hno i), Nat.zero_le _, fun b _ _ => ⟨fun h => absurd h (hno b), fun h => absurd h (by omega)⟩, (hs_mono C (Nat.zero_le _) (Nat.le_refl _)).1 _ C.h0, he0.size, fun j _ _ h => absurd h (hno j), fun _ _ => rfl, rfl, hmG, hsG, fun j y h5 h6 _ => ⟨free j y h5 h6, C.G_al (Nat.zero_le _) h5 h6⟩, fun b h5 h6 h7 => ?_, wf0, fun j _ _ _ h => absurd h (hno j)⟩
    rw [hs0.1] at h5
    rw [hN] at h6
    exact absurd (hf b h5 h6) h7
  refine any_ok hc C he0 (fun a' w' ρ' p I => ?_) ops.size _ a wd ρ 0 (by simp) ?_ hInv
  · have hgap : ∀ j, p ≤ j → j < ops.size → lo j = false := by
      intro j h5 h6
      cases hj : lo j with
      | false => rfl
      | true => have := (I.ld j h6 hj).1 h6; omega
    have hG : Gat ops.size σ al p = (σ ops.size).hp := by
      rw [C.G_eq I.pn (Nat.le_refl _) hgap]
      unfold Gat
      rw [Nat.sub_self]
      rfl
    have hn : ∀ (k t : Nat), (F 0).ns[k]? = some t → (F 0).mask.testBit t = false := by
      intro k t hk
      have hlt := (List.getElem?_eq_some_iff.1 hk).1
      rw [← he0.len] at hlt
      exact (he0.near k t (σ 0).l[k] hk (List.getElem?_eq_getElem hlt)).1
    have src := C.src hn (i := ops.size) (Nat.le_refl _)
    have hstep := I.step
    rw [hG, hs0.1, hN] at hstep
    have hmem := I.mem
    rw [hG, hN] at hmem
    have henv : EnvOk ρ' (F ops.size) (σ ops.size).l (σ ops.size).tm a'.tmps := by
      have fin : ∀ (tt : Nat) (u : AV) (r : Prop), (r → ∃ y, a.tmps[tt]? = some y ∧ den ρ u = some y) → ((∃ j x, j < ops.size ∧ ops[j]? = some x ∧ x.dst = some tt ∧ u = v j) ∨ ((∀ j x, j < ops.size → ops[j]? = some x → x.dst ≠ some tt) ∧ r)) → ∃ y, a'.tmps[tt]? = some y ∧ den ρ' u = some y := by
        intro tt u r hr h
        rcases h with ⟨j, x, e1, e2, e3, rfl⟩ | ⟨e1, e2⟩
        · exact I.done j x tt e1 e2 e3
        · obtain ⟨y, g1, g2⟩ := hr e2
          exact ⟨y, by rw [I.still tt fun j x hj hx => e1 j x hj hx]; exact g1, den_mono I.step.ext g2⟩
      refine ⟨I.size.trans src.nt.symm, fun tt u h5 h6 => ?_, ?_, fun k tt u h5 h6 => ?_⟩
      · rw [src.mask] at h5
        exact fin tt u _ (fun h => he0.slot tt u h5 h) (src.slot tt u h5 h6)
      · obtain ⟨m, n, e1, e2, e3⟩ := src.grows.ex
        rw [e1, e2]; simp [e3, he0.len]
      · obtain ⟨e1, e2⟩ := src.near k tt u h5 h6
        rw [src.mask]
        exact ⟨e1, fin tt u _ (fun ⟨k0, e3, e4⟩ => (he0.near k0 tt u e3 e4).2) e2⟩
    have hgr := src.grows
    rw [hF0, hs0.2.1, hFn, hσn] at hgr
    rw [hFn, hσn] at henv
    refine hq ρ' a' w' (s1.trans hstep) ⟨henv, hmem, ?_⟩ hgr
    rw [I.df]
    exact st.df.mono I.step.ext
  · rw [Array.toList_replicate]
    rw [List.countP_replicate]
    simp
end
end Go.AX
/- The abstract executor: a region whose last store is bound to no order with one store ahead of it. -/
namespace Go.AX
section
variable {P : Program} {X : Ext} {call : CallH}
theorem ex_bind {ε α β : Type} {x : Except ε α} {f : α → Except ε β} {r : β} (h : (x >>= f) = .ok r) : ∃ a, x = .ok a ∧ f a = .ok r := by
  cases x with
  | error e => cases h
  | ok a => exact ⟨a, rfl, h⟩
theorem ex_thr {α β : Type} {e : String} {f : α → Except String β} {r : β} (h : ((MonadExcept.throw e : Except String α) >>= f) = .ok r) : False := by cases h
theorem viewStore_form {p : Program} {w : World} {at_ : Addr} {u : TypeId} {k : Addr} {v : Value} {b : Bool} {r : World × List Addr} (h : w.viewStore p at_ u k v b = .ok r) : (∃ q, w.seen p at_ u k b = .ok q) ∧ ∃ ob, r.1 = { w with heap := w.heap.setIfInBounds at_.block ob } := by
  unfold World.viewStore at h
  dsimp only at h
  by_cases h0 : (!tight p p.depth u) = true
  · rw [if_pos h0] at h; exact (ex_thr h).elim
  · rw [if_neg h0] at h
    obtain ⟨q, hq, h⟩ := ex_bind h
    refine ⟨⟨q, hq⟩, ?_⟩
    cases hv : v.bytes? with
    | none => rw [hv] at h; cases h
    | some bytes =>
      rw [hv] at h
      dsimp only at h
      by_cases h1 : some bytes.length ≠ Option.map (fun x => x.length) q.2.2.2.2.1.bytes?
      · rw [if_pos h1] at h; exact (ex_thr h).elim
      · rw [if_neg h1] at h
        obtain ⟨c, _, h⟩ := ex_bind h
        cases h
        exact ⟨_, rfl⟩
theorem seen_form {p : Program} {w : World} {at_ : Addr} {u : TypeId} {k : Addr} {b : Bool} {q : Array Value × TypeId × (Nat × Nat) × Nat × Value × List (Nat × Nat × List UInt8)} (h : w.seen p at_ u k b = .ok q) : ∃ cs e f, w.heap[at_.block]? = some (.cells cs e f) := by
  unfold World.seen at h
  dsimp only at h
  by_cases h0 : (k.spot.isSome || at_.spot.isSome) = true
  · rw [if_pos h0] at h; exact (ex_thr h).elim
  · rw [if_neg h0] at h
    cases h1 : plainCell p p.depth u k.off with
    | none => rw [h1] at h; cases h
    | some like =>
      rw [h1] at h
      dsimp only at h
      cases h2 : Option.map (fun x => x.length) like.bytes? with
      | none => rw [h2] at h; cases h
      | some size =>
        rw [h2] at h
        dsimp only at h
        cases h3 : byteOfCell p p.depth u k.off with
        | none => rw [h3] at h; cases h
        | some β =>
          rw [h3] at h
          dsimp only at h
          cases hc : w.heap[at_.block]? with
          | none => rw [hc] at h; cases h
          | some ob =>
            rw [hc] at h
            cases ob with
            | cells cs e f => exact ⟨cs, e, f, rfl⟩
            | _ => cases h
theorem seen_cells {p : Program} {w : World} {at_ : Addr} {u : TypeId} {k : Addr} {v : Value} {b : Bool} {r : World × List Addr} (h : w.viewStore p at_ u k v b = .ok r) (cb : Nat) (x : Addr) (y : TypeId) (hb : w.heap[cb]? = some (.view x y)) : r.1.heap[cb]? = some (.view x y) := by
  obtain ⟨⟨q, hq⟩, ob, hr⟩ := viewStore_form h
  obtain ⟨cs, e, f, hc⟩ := seen_form hq
  rw [hr]
  show (w.heap.setIfInBounds at_.block ob)[cb]? = _
  rw [Array.getElem?_setIfInBounds]
  split
  · rename_i e1; subst e1; rw [hc] at hb; cases hb
  · exact hb
theorem store_view {w w' : World} {cb o : Nat} {x : Addr} {u : TypeId} {v : Value} (hv : v.oneCell' = true) (hb : w.heap[cb]? = some (.view x u)) (h : (store ⟨cb, o, none⟩ v).run P w = .ok () w') : w'.heap[cb]? = some (.view x u) := by
  rw [run_store P w _ v .plain hv] at h
  have h1 : w.cell? ⟨cb, o, none⟩ = none := by simp [World.cell?, hb]
  rw [h1] at h
  simp only [World.farStore, hb] at h
  cases hq : w.viewStore P x u ⟨cb, o, none⟩ v (Mode.plain == Mode.atomic) with
  | error e => rw [hq] at h; cases h
  | ok r =>
    rw [hq] at h
    cases h
    exact seen_cells hq cb x u hb
theorem storeCells_view {cb : Nat} {x : Addr} {u : TypeId} : ∀ (vs : List Value) (w w' : World) (o i : Nat), (∀ v ∈ vs, v.oneCell' = true) → w.heap[cb]? = some (.view x u) → (storeCells ⟨cb, o, none⟩ vs i).run P w = .ok () w' → w'.heap[cb]? = some (.view x u)
  | [], w, w', o, i, _, hb, h => by simp [storeCells] at h; rw [← h]; exact hb
  | v :: vs, w, w', o, i, hv, hb, h => by
    simp only [storeCells, Sem.run_bind, addr_add] at h
    cases h1 : (store ⟨cb, o + i, none⟩ v).run P w with
    | halt y w1 => rw [h1] at h; cases h
    | ok y w1 =>
      rw [h1] at h
      have h : (storeCells ⟨cb, o, none⟩ vs (i + 1)).run P w1 = .ok () w' := h
      exact storeCells_view vs w1 w' o (i + 1) (fun z hz => hv z (List.mem_cons_of_mem _ hz)) (store_view (hv v (List.mem_cons_self ..)) hb h1) h
theorem store_none {w w' : World} {cb o : Nat} {v : Value} (hv : v.oneCell' = true) (h : (store ⟨cb, o, none⟩ v).run P w = .ok () w') : (∃ cs e f, w.heap[cb]? = some (.cells cs e f)) ∨ ∃ x u, w.heap[cb]? = some (.view x u) := by
  rw [run_store P w _ v .plain hv] at h
  cases hb : w.heap[cb]? with
  | none =>
    have h1 : w.cell? ⟨cb, o, none⟩ = none := by simp [World.cell?, hb]
    rw [h1] at h
    simp only [World.farStore, hb] at h
    cases h
  | some ob =>
    cases ob with
    | cells cs e f => exact .inl ⟨cs, e, f, rfl⟩
    | view x u => exact .inr ⟨x, u, rfl⟩
    | _ =>
      have h1 : w.cell? ⟨cb, o, none⟩ = none := by simp [World.cell?, hb]
      rw [h1] at h
      simp only [World.farStore, hb] at h
      cases h
theorem setO_eq {w : World} {cb : Nat} {ob : Obj} (h : w.heap[cb]? = some ob) : ({ w with heap := w.heap.setIfInBounds cb ob } : World) = w := by
  have : w.heap.setIfInBounds cb ob = w.heap := by
    apply Array.ext_getElem?
    intro i
    rw [Array.getElem?_setIfInBounds]
    split
    · rename_i e; subst e
      have := (Array.getElem?_eq_some_iff.1 h).1
      rw [if_pos this, h]
    · rfl
  rw [this]
theorem setCell_set {w : World} {cb o : Nat} {v : Value} {cs : Array Value} {e : TypeId} {f : Nat × Nat} (h : w.heap[cb]? = some (.cells cs e f)) : w.setCell ⟨cb, o, none⟩ v = { w with heap := w.heap.setIfInBounds cb (.cells (cs.setIfInBounds o v) e f) } := by
  unfold World.setCell
  congr 1
  apply Array.ext_getElem?
  intro i
  have hlt := (Array.getElem?_eq_some_iff.1 h).1
  rw [Array.getElem?_setIfInBounds, Array.getElem?_modify]
  by_cases e : cb = i
  · subst e; simp [hlt, (Array.getElem?_eq_some_iff.1 h).2]
  · simp [e]
theorem storeCells_local {cb : Nat} {e : TypeId} {f : Nat × Nat} : ∀ (vs : List Value) (w w' : World) (o i : Nat) (cs : Array Value), (∀ v ∈ vs, v.oneCell' = true) → w.heap[cb]? = some (.cells cs e f) → (storeCells ⟨cb, o, none⟩ vs i).run P w = .ok () w' →
    ∃ cs', ∀ w2 : World, w2.heap[cb]? = some (.cells cs e f) → (storeCells ⟨cb, o, none⟩ vs i).run P w2 = .ok () { w2 with heap := w2.heap.setIfInBounds cb (.cells cs' e f) }
  | [], w, w', o, i, cs, _, hb, h => ⟨cs, fun w2 h2 => by rw [setO_eq h2]; simp [storeCells]⟩
  | v :: vs, w, w', o, i, cs, hv, hb, h => by
    simp only [storeCells, Sem.run_bind, addr_add] at h
    cases h1 : (store ⟨cb, o + i, none⟩ v).run P w with
    | halt y w1 => rw [h1] at h; cases h
    | ok y w1 =>
      rw [h1] at h
      have h : (storeCells ⟨cb, o, none⟩ vs (i + 1)).run P w1 = .ok () w' := h
      have hone := hv v (List.mem_cons_self ..)
      have key : ∀ w2 : World, w2.heap[cb]? = some (.cells cs e f) → (store ⟨cb, o + i, none⟩ v).run P w2 = .ok () { w2 with heap := w2.heap.setIfInBounds cb (.cells (cs.setIfInBounds (o + i) v) e f) } := by
        intro w2 h2
        have c1 : ∀ w3 : World, w3.heap[cb]? = some (.cells cs e f) → w3.cell? ⟨cb, o + i, none⟩ = cs[o + i]? := fun w3 h3 => by simp [World.cell?, h3]
        have c2 : ∀ w3 : World, w3.heap[cb]? = some (.cells cs e f) → w3.frozen? ⟨cb, o + i, none⟩ = (decide (f.1 ≤ o + i) && decide (o + i < f.2)) := fun w3 h3 => by simp [World.frozen?, h3]
        rw [run_store P w _ v .plain hone, c1 w hb, c2 w hb] at h1
        rw [run_store P w2 _ v .plain hone, c1 w2 h2, c2 w2 h2]
        cases hc : cs[o + i]? with
        | none =>
          rw [hc] at h1
          simp only [World.farStore, hb] at h1
          cases h1
        | some c =>
          rw [hc] at h1
          simp only at h1 ⊢
          split at h1
          · cases h1
          · rename_i hz
            rw [if_neg hz, setCell_set h2]
      have hw1 := key w hb
      rw [h1] at hw1
      cases hw1
      have hlt : cb < w.heap.size := (Array.getElem?_eq_some_iff.1 hb).1
      obtain ⟨cs', hcs⟩ := storeCells_local vs _ w' o (i + 1) (cs.setIfInBounds (o + i) v) (fun z hz => hv z (List.mem_cons_of_mem _ hz)) (by show (w.heap.setIfInBounds cb _)[cb]? = _; rw [Array.getElem?_setIfInBounds, if_pos rfl, if_pos hlt]) h
      refine ⟨cs', fun w2 h2 => ?_⟩
      have hlt2 : cb < w2.heap.size := (Array.getElem?_eq_some_iff.1 h2).1
      simp only [storeCells, Sem.run_bind, addr_add, key w2 h2, Result.andThen_ok]
      rw [hcs _ (by show (w2.heap.setIfInBounds cb _)[cb]? = _; rw [Array.getElem?_setIfInBounds, if_pos rfl, if_pos hlt2])]
      congr 2
      apply Array.ext_getElem?
      intro j
      show ((w2.heap.setIfInBounds cb _).setIfInBounds cb _)[j]? = _
      rw [Array.getElem?_setIfInBounds, Array.getElem?_setIfInBounds, Array.getElem?_setIfInBounds, Array.size_setIfInBounds]
      split <;> rfl
theorem exec_store {ev : Operand → Value} {o : Oper} {t : TypeId} {x y : Operand} (ho : o.op = .store t x y) (w : World) : (execOp ev o).run P w = ((Instr.storeAt t (ev x) (ev y)).run P w).andThen fun _ w' => .ok .skip w' := by
  obtain ⟨dst, op, type, pos, after, guard⟩ := o
  simp only at ho
  subst ho
  simp only [execOp, Sem.run_bind, Sem.run_pure]
theorem storeAt_run {t : TypeId} {cb o : Nat} {v : Value} {w w' : World} (h : (Instr.storeAt t (.pointer (some ⟨cb, o, none⟩)) v).run P w = .ok () w') : (storeCells ⟨cb, o, none⟩ v.cells.toList 0).run P w = .ok () w' ∧ ∀ w2, (Instr.storeAt t (.pointer (some ⟨cb, o, none⟩)) v).run P w2 = (storeCells ⟨cb, o, none⟩ v.cells.toList 0).run P w2 := by
  have key : ∀ w2, (Instr.storeAt t (.pointer (some ⟨cb, o, none⟩)) v).run P w2 = ((sizeOf t).run P w2).andThen fun n w3 => ((if v.cells.size ≠ n then stuck "storeVar: the value has not the size of the variable" else storeCells ⟨cb, o, none⟩ v.cells.toList 0 : Sem Unit)).run P w3 := by
    intro w2
    simp only [Instr.storeAt, Instr.sureAddr, storeVar, Sem.run_bind, Sem.run_pure, Result.andThen_ok]
    congr 1
  cases hi : P.info? t with
  | none =>
    rw [key] at h
    simp [sizeOf, typeInfo, run_program, hi, stuck] at h
  | some i =>
    have hs : ∀ w2, (sizeOf t).run P w2 = .ok i.size w2 := fun w2 => by simp [sizeOf, typeInfo, run_program, hi]
    rw [key, hs] at h
    simp only [Result.andThen_ok] at h
    by_cases hn : v.cells.size ≠ i.size
    · rw [if_pos hn] at h; simp [stuck] at h
    · rw [if_neg hn] at h
      refine ⟨h, fun w2 => ?_⟩
      rw [key, hs]
      simp only [Result.andThen_ok]
      rw [if_neg hn]
theorem store_local {ev : Operand → Value} {oo : Oper} {t : TypeId} {x y : Operand} (ho : oo.op = .store t x y) {cb off : Nat} (hx : ev x = .pointer (some ⟨cb, off, none⟩)) (hy : ∀ v ∈ (ev y).cells.toList, v.oneCell' = true) {w : World} {n : Go.Next} {w' : World} (h : (execOp ev oo).run P w = .ok n w') :
    n = .skip ∧ ((∃ u z, w.heap[cb]? = some (.view u z) ∧ w'.heap[cb]? = some (.view u z)) ∨ (∀ w2 : World, (execOp ev oo).run P w2 = .ok .skip w2) ∨
      ∃ cs e f cs', w.heap[cb]? = some (.cells cs e f) ∧ ∀ w2 : World, w2.heap[cb]? = some (.cells cs e f) → (execOp ev oo).run P w2 = .ok .skip { w2 with heap := w2.heap.setIfInBounds cb (.cells cs' e f) }) := by
  rw [exec_store ho, hx] at h
  cases hr : (Instr.storeAt t (.pointer (some ⟨cb, off, none⟩)) (ev y)).run P w with
  | halt z w1 => rw [hr] at h; cases h
  | ok z w1 =>
    rw [hr] at h
    cases h
    refine ⟨rfl, ?_⟩
    obtain ⟨h1, h2⟩ := storeAt_run hr
    cases hl : (ev y).cells.toList with
    | nil =>
      refine .inr (.inl fun w2 => ?_)
      rw [exec_store ho, hx, h2, hl]
      simp [storeCells]
    | cons v vs =>
      have hst : (∃ cs e f, w.heap[cb]? = some (.cells cs e f)) ∨ ∃ x u, w.heap[cb]? = some (.view x u) := by
        have h3 := h1
        rw [hl] at h3
        simp only [storeCells, Sem.run_bind, addr_add] at h3
        cases h4 : (store ⟨cb, off + 0, none⟩ v).run P w with
        | halt y w1 => rw [h4] at h3; cases h3
        | ok y w1 => exact store_none (hy v (by rw [hl]; exact List.mem_cons_self ..)) h4
      rcases hst with ⟨cs, e, f, hc⟩ | ⟨u, z, hc⟩
      · obtain ⟨cs', hcs⟩ := storeCells_local _ w w' off 0 cs hy hc h1
        exact .inr (.inr ⟨cs, e, f, cs', hc, fun w2 hw2 => by rw [exec_store ho, hx, h2, hcs w2 hw2]; rfl⟩)
      · exact .inl ⟨u, z, hc, storeCells_view _ w w' off 0 hy hc h1⟩
end
end Go.AX
/- The abstract executor: the last store of a region put behind everything: the orders. -/
namespace Go.AX
section
variable {P : Program} {ops : Array Oper} {bs : List Nat} {I : LateI}
structure LateOk (P : Program) (ops : Array Oper) (bs : List Nat) (I : LateI) (ob oa : Oper) (ta : TypeId) : Prop where
  ord : OrdOk ops bs
  size : ops.size = ops.pop.size + 1
  guard : ∀ (i : Nat) (o : Oper), ops[i]? = some o → o.guard = none
  hb : ops[ops.pop.size]? = some ob
  kb : ob.op = .store I.tb (.tmp I.xb) (.tmp I.yb)
  db : ob.dst = none
  ha : ops[I.ia]? = some oa
  ka : oa.op = .store ta (.tmp I.xa) (.tmp I.ya)
  da : oa.dst = none
  la : I.ia < ops.pop.size
  rest : ∀ (j : Nat) (o : Oper), j < ops.pop.size → ops[j]? = some o → (bsOf bs ops.pop.size).testBit j = true ∨ j = I.ia ∨ ((∃ t x y e, o.op = .indexAddr t x y ∧ P.underlying t = some (.slice e)) ∧ ∃ d, o.dst = some d ∧ d ≠ I.xb ∧ d ≠ I.yb ∧ ((d ≠ I.xa ∧ d ≠ I.ya) ∨ (bsOf bs I.ia).testBit j = true))
theorem pop_get {α : Type} {a : Array α} {i : Nat} (h : i < a.pop.size) : a.pop[i]? = a[i]? := by
  rw [Array.getElem?_pop]
  rw [Array.size_pop] at h
  split <;> first | rfl | omega
theorem storeOf_eq {o : Oper} {t : TypeId} {x y : Nat} (h : storeOf o = some (t, x, y)) : o.op = .store t (.tmp x) (.tmp y) := by
  unfold storeOf at h
  split at h
  · rename_i h1; cases h; exact h1
  · cases h
theorem lateOk_eq (lt : ∀ (i : Nat) (o : Oper) (e : Edge), ops.pop[i]? = some o → e ∈ o.after.toList → Region.binds .any e = true → e.on < i) (h : lateOk P (befs ops.toList []) ops.pop.size ops I = true) : ∃ ob oa ta, LateOk P ops (befs ops.toList []) I ob oa ta := by
  unfold lateOk at h
  simp only [band_eq, Bool.and_eq_true] at h
  obtain ⟨h1, h2, h3, h4⟩ := h
  cases hb : ops[ops.pop.size]? with
  | none => rw [hb] at h2; cases h2
  | some ob =>
  rw [hb] at h2
  cases ha : ops[I.ia]? with
  | none => rw [ha] at h3; cases h3
  | some oa =>
  rw [ha] at h3
  simp only [Bool.and_eq_true, Option.isNone_iff_eq_none, natBlt_eq] at h2 h3
  obtain ⟨b1, b2, b3⟩ := h2
  obtain ⟨a1, a2, a3⟩ := h3
  have hsz : ops.size = ops.pop.size + 1 := by
    have := (Array.getElem?_eq_some_iff.1 hb).1
    rw [Array.size_pop] at *; omega
  have hlt : ∀ (i : Nat) (o : Oper) (e : Edge), ops[i]? = some o → e ∈ o.after.toList → Region.binds .any e = true → e.on < i := by
    intro i o e hi he hbd
    by_cases hin : i < ops.pop.size
    · exact lt i o e (by rw [pop_get hin]; exact hi) he hbd
    · have : i = ops.pop.size := by have := (Array.getElem?_eq_some_iff.1 hi).1; omega
      subst this
      rw [hb] at hi; cases hi
      have := List.all_eq_true.1 b3 e he
      rw [hbd] at this
      simpa using this
  unfold isStoreOf at a1 b1
  cases qa : storeOf oa with
  | none => rw [qa] at a1; cases a1
  | some za =>
  obtain ⟨ta, xa, ya⟩ := za
  rw [qa] at a1
  cases qb : storeOf ob with
  | none => rw [qb] at b1; cases b1
  | some zb =>
  obtain ⟨tb, xb, yb⟩ := zb
  rw [qb] at b1
  simp only [band_eq, Bool.and_eq_true, natBeq_eq] at a1 b1
  obtain ⟨rfl, rfl, _⟩ := a1
  obtain ⟨rfl, rfl, rfl⟩ := b1
  refine ⟨ob, oa, ta, ordOk_of hlt, hsz, fun i o hi => ?_, hb, storeOf_eq qb, b2, ha, storeOf_eq qa, a2, a3, fun j o hj ho => ?_⟩
  · have := List.all_eq_true.1 h1 o (by rw [Array.mem_toList_iff]; exact Array.mem_of_getElem? hi)
    simpa using this
  · have := List.all_eq_true.1 h4 (o, j) (by rw [List.mem_zipIdx_iff_getElem?, Array.getElem?_toList, pop_get hj]; exact ho)
    simp only [bor_eq, Bool.or_eq_true, natBeq_eq, Bool.and_eq_true] at this
    rcases this with h5 | h5 | ⟨h5, h6⟩
    · exact .inl h5
    · exact .inr (.inl h5)
    · refine .inr (.inr ⟨?_, ?_⟩)
      · unfold isIdx at h5
        split at h5
        · rename_i t x y ho'
          split at h5
          · rename_i e he; exact ⟨t, x, y, e, ho', he⟩
          · cases h5
        · cases h5
      · split at h6
        · rename_i d hd
          simp only [bnot_eq, Bool.and_eq_true, Bool.or_eq_true, Bool.not_eq_true'] at h6
          have ne : ∀ a b : Nat, Nat.beq a b = false → a ≠ b := fun a b h e => by subst e; simp at h
          refine ⟨d, hd, ne _ _ h6.1, ne _ _ h6.2.1, ?_⟩
          rcases h6.2.2 with h7 | h7
          · exact .inl ⟨ne _ _ h7.1, ne _ _ h7.2⟩
          · exact .inr h7
        · cases h6

variable {Q : Exit → Act → World → Prop}
def Plain (Q' : Exit → Act → World → Prop) : Prop := ∀ e a w, Q' e a w → e = .normal
theorem Plain.lets {Q' : Exit → Act → World → Prop} (h : Plain Q') : ¬ LetsOut Q' := fun ⟨a, w, hq⟩ => by cases h _ _ _ hq
theorem upon_plain {o : Oper} {a : Act} {Q' : Exit → Act → World → Prop} (hp : Plain Q') {K K' : Act → World → Prop} (hK : ∀ a w, K a w → K' a w) {r : Result Go.Next} (h : o.upon P a K Q' r) : o.upon P a K' Q r := by
  unfold Oper.upon at *
  split at h
  · exact hK _ _ h
  · exact hK _ _ h
  · exact hK _ _ h
  · refine Calls.mono h fun e w'' he => ?_
    cases e with
    | returned v => exact hK _ _ he
    | panicked c => exact absurd (hp _ _ _ he) (by simp)
    | outgrown => exact absurd he hp.lets
  · exact Rows.mono h fun v w' hv => hK _ _ hv
  · exact absurd (hp _ _ _ h) (by simp)
  · exact h.elim
theorem idx_indep {o : Oper} {t e : TypeId} {x y : Operand} (ho : o.op = .indexAddr t x y) (ht : P.underlying t = some (.slice e)) {a : Act} {w : World} {Q' : Exit → Act → World → Prop} (hp : Plain Q') {K : Act → World → Prop} (h : o.upon P a K Q' ((execOp a.eval o).run P w)) :
    ∃ v, (∀ w2, (execOp a.eval o).run P w2 = .ok (.value v) w2) ∧ K (a.put o.dst v) w := by
  have hex : ∀ w2, (execOp a.eval o).run P w2 = ((Instr.indexAt t (a.eval x) (a.eval y)).run P w2).andThen fun v w' => .ok (.value v) w' := by
    intro w2
    obtain ⟨dst, op, type, pos, after, guard⟩ := o
    simp only at ho
    subst ho
    simp only [execOp, Sem.run_bind, Sem.run_pure]
  have fin : ∀ v, (∀ w2, (Instr.indexAt t (a.eval x) (a.eval y)).run P w2 = .ok v w2) → ∃ v, (∀ w2, (execOp a.eval o).run P w2 = .ok (.value v) w2) ∧ K (a.put o.dst v) w := by
    intro v hv
    have h2 : ∀ w2, (execOp a.eval o).run P w2 = .ok (.value v) w2 := fun w2 => by rw [hex, hv]; rfl
    rw [h2] at h
    exact ⟨v, h2, h⟩
  have bad : ∀ (z : Halt) (w' : World), (Instr.indexAt t (a.eval x) (a.eval y)).run P w = .halt z w' → False := by
    intro z w' hz
    rw [hex, hz] at h
    have h : o.upon P a K Q' (.halt z w') := h
    unfold Oper.upon at h
    split at h <;> first
      | (rename_i heq; cases heq; done)
      | (exact absurd (hp _ _ _ h) (by simp))
      | exact h
  cases hY : a.eval y with
  | int k i =>
    cases hX : a.eval x with
    | slice base n cap =>
      cases base with
      | none =>
        obtain ⟨s, w', hr⟩ := run_boundsPanic (α := Value) (P := P) (w := w) k i 0 .index
        exact (bad _ w' (by rw [hX, hY]; simp only [Instr.indexAt, asIntOf, Sem.run_bind, Sem.run_pure, Result.andThen_ok, run_underlying ht]; exact hr)).elim
      | some ad =>
        by_cases hlt : (0 : Int) ≤ i ∧ i < n
        · cases hi : P.info? e with
          | none =>
            exact (bad _ w (by rw [hX, hY]; simp only [Instr.indexAt, asIntOf, Sem.run_bind, Sem.run_pure, Result.andThen_ok, run_underlying ht, if_pos hlt, sizeOf, typeInfo, run_program, hi]; rfl)).elim
          | some info =>
            refine fin (.pointer (some (ad.add (i.toNat * info.size)))) fun w2 => ?_
            rw [hX, hY]
            simp only [Instr.indexAt, asIntOf, Sem.run_bind, Sem.run_pure, Result.andThen_ok, run_underlying ht, if_pos hlt, sizeOf, typeInfo, run_program, hi]
        · obtain ⟨s, w', hr⟩ := run_boundsPanic (α := Value) (P := P) (w := w) k i n .index
          exact (bad _ w' (by
            rw [hX, hY]
            simp only [Instr.indexAt, asIntOf, Sem.run_bind, Sem.run_pure, Result.andThen_ok, run_underlying ht, if_neg hlt, Bool.and_false, Bool.false_eq_true, if_false]
            exact hr)).elim
    | _ => exact (bad _ w (by rw [hX, hY]; simp only [Instr.indexAt, asIntOf, Sem.run_bind, Sem.run_pure, Result.andThen_ok, run_underlying ht]; rfl)).elim
  | pointer q =>
    cases q with
    | none => exact (bad _ w (by rw [hY]; simp only [Instr.indexAt, asIntOf, Sem.run_bind]; rfl)).elim
    | some ad => exact (bad _ w (by rw [hY]; simp only [Instr.indexAt, asIntOf, Sem.run_bind]; rfl)).elim
  | _ => exact (bad _ w (by rw [hY]; simp only [Instr.indexAt, asIntOf, Sem.run_bind]; rfl)).elim
def Ends (I : LateI) (a : Act) (w : World) : Prop := ∃ cbA oA cbB oB, a.eval (.tmp I.xa) = .pointer (some ⟨cbA, oA, none⟩) ∧ a.eval (.tmp I.xb) = .pointer (some ⟨cbB, oB, none⟩) ∧ cbA ≠ cbB ∧ (∃ cs e f, w.heap[cbA]? = some (.cells cs e f)) ∧ (∃ cs e f, w.heap[cbB]? = some (.cells cs e f)) ∧
  (∀ v ∈ (a.eval (.tmp I.ya)).cells.toList, v.oneCell' = true) ∧ ∀ v ∈ (a.eval (.tmp I.yb)).cells.toList, v.oneCell' = true
def Last (P : Program) (ob : Oper) (Q : Exit → Act → World → Prop) (a : Act) (w : World) : Prop := ∃ w2, (execOp a.eval ob).run P w = .ok .skip w2 ∧ Q .normal a w2
def QL (P : Program) (I : LateI) (ob : Oper) (Q : Exit → Act → World → Prop) : Exit → Act → World → Prop
  | .normal, a, w => Ends I a w ∧ Last P ob Q a w
  | _, _, _ => False
theorem QL_plain (ob : Oper) : Plain (QL P I ob Q) := fun e a w h => by cases e <;> first | rfl | exact h.elim
def Closed (bs : List Nat) (listed : Array Bool) : Prop := ∀ i j, Lst listed i → (bsOf bs i).testBit j = true → Lst listed j
theorem lst_set {listed : Array Bool} {i : Nat} (hi : i < listed.size) (j : Nat) : Lst (listed.setIfInBounds i true) j ↔ Lst listed j ∨ j = i := by
  unfold Lst
  rw [Array.getElem?_setIfInBounds]
  by_cases e : i = j
  · subst e; simp [hi]
  · rw [if_neg e]
    constructor
    · exact .inl
    · rintro (h | h)
      · exact h
      · exact absurd h.symm e
theorem ready_iff {ops : Array Oper} {listed : Array Bool} {i : Nat} (hs : listed.size = ops.size) : i ∈ Region.ready .any ops listed ↔ ∃ o, ops[i]? = some o ∧ ¬ Lst listed i ∧ ∀ e ∈ o.after.toList, Region.binds .any e = true → Lst listed e.on := by
  refine ⟨ready_mem hs, fun ⟨o, ho, hn, he⟩ => ?_⟩
  have hi : i < ops.size := (Array.getElem?_eq_some_iff.1 ho).1
  unfold Region.ready
  rw [List.mem_filter]
  refine ⟨by simpa using hi, ?_⟩
  rw [Bool.and_eq_true, ho]
  refine ⟨?_, ?_⟩
  · have hlt : i < listed.size := by omega
    have : listed[i] ≠ true := fun e => hn (by unfold Lst; rw [Array.getElem?_eq_getElem hlt, e])
    rw [Array.getD_eq_getD_getElem?, Array.getElem?_eq_getElem hlt]
    simpa using this
  · show (o.after.all fun e => !Region.binds .any e || listed.getD e.on false) = true
    rw [Array.all_eq_true']
    intro e hm
    cases hb : Region.binds .any e with
    | false => rfl
    | true =>
      have := he e (Array.mem_toList_iff.2 hm) hb
      unfold Lst at this
      rw [Array.getD_eq_getD_getElem?, this]
      rfl
theorem ready_closed (ord : OrdOk ops bs) {listed : Array Bool} {i : Nat} {o : Oper} (ho : ops[i]? = some o) (hc : Closed bs listed) (he : ∀ e ∈ o.after.toList, Region.binds .any e = true → Lst listed e.on) (j : Nat) (hj : (bsOf bs i).testBit j = true) : Lst listed j := by
  obtain ⟨e, h1, h2, h3⟩ := (ord.bit i o j ho).1 hj
  rcases h3 with rfl | h3
  · exact he e h1 h2
  · exact hc e.on j (he e h1 h2) h3
theorem closed_set (ord : OrdOk ops bs) {listed : Array Bool} {i : Nat} {o : Oper} (hs : listed.size = ops.size) (ho : ops[i]? = some o) (hc : Closed bs listed) (he : ∀ e ∈ o.after.toList, Region.binds .any e = true → Lst listed e.on) : Closed bs (listed.setIfInBounds i true) := by
  have hi : i < listed.size := by rw [hs]; exact (Array.getElem?_eq_some_iff.1 ho).1
  intro k j hk hj
  rw [lst_set hi] at hk ⊢
  rcases hk with hk | rfl
  · exact .inl (hc k j hk hj)
  · exact .inl (ready_closed ord ho hc he j hj)
theorem lst_pop {listed : Array Bool} {i : Nat} (h : i + 1 < listed.size) : Lst listed.pop i ↔ Lst listed i := by
  unfold Lst
  rw [pop_get (by rw [Array.size_pop]; omega)]
theorem pop_set {listed : Array Bool} {i : Nat} : (listed.setIfInBounds i true).pop = listed.pop.setIfInBounds i true := by
  apply Array.ext_getElem?
  intro j
  rw [Array.getElem?_pop, Array.getElem?_setIfInBounds, Array.getElem?_setIfInBounds, Array.getElem?_pop, Array.size_pop, Array.size_setIfInBounds]
  split <;> split <;> (try split) <;> (try split) <;> first | rfl | omega
theorem pop_set_last {listed : Array Bool} {n : Nat} (h : listed.size = n + 1) : (listed.setIfInBounds n true).pop = listed.pop := by
  rw [pop_set]
  apply Array.ext_getElem?
  intro j
  rw [Array.getElem?_setIfInBounds, Array.getElem?_pop, Array.size_pop]
  split
  · rw [if_neg (by omega), if_neg (by omega)]
  · rfl
end
end Go.AX
/- The abstract executor: regions that draw their order: with a late store, too. -/
namespace Go.AX
section
variable {P : Program} {ops : Array Oper} {bs : List Nat} {I : LateI} {ob oa : Oper} {ta : TypeId} {Q : Exit → Act → World → Prop}
theorem wpOp_go {ops' : Array Oper} {i : Nat} {o : Oper} (ho : ops'[i]? = some o) (hg : o.guard = none) {Q : Exit → Act → World → Prop} {K : Act → World → Prop} {a : Act} {w : World} : wpOp P ops' Q i K a w ↔ (o.wp P a w K Q ∨ (o.asks P a w ∧ LetsOut Q)) := by
  unfold wpOp
  rw [ho]
  simp [Region.wanted, hg]
theorem wpOp_quiet {ops' : Array Oper} {i : Nat} {o : Oper} (ho : ops'[i]? = some o) (hg : o.guard = none) {Q' : Exit → Act → World → Prop} (hp : Plain Q') {K : Act → World → Prop} {a : Act} {w : World} (h : wpOp P ops' Q' i K a w) : o.upon P a K Q' ((execOp a.eval o).run P w) := by
  rcases (wpOp_go ho hg).1 h with h | ⟨_, h⟩
  · exact h
  · exact absurd h hp.lets
theorem ready_pop (L : LateOk P ops bs I ob oa ta) {listed : Array Bool} (hs : listed.size = ops.pop.size + 1) {i : Nat} (hi : i < ops.pop.size) : i ∈ Region.ready .any ops.pop listed.pop ↔ i ∈ Region.ready .any ops listed := by
  rw [ready_iff (by rw [Array.size_pop]; omega), ready_iff (by rw [hs, L.size])]
  constructor
  · rintro ⟨o, h1, h2, h3⟩
    rw [pop_get hi] at h1
    refine ⟨o, h1, fun h => h2 ((lst_pop (by omega)).2 h), fun e he hb => ?_⟩
    have := L.ord.lt i o e h1 he hb
    exact (lst_pop (by omega)).1 (h3 e he hb)
  · rintro ⟨o, h1, h2, h3⟩
    refine ⟨o, by rw [pop_get hi]; exact h1, fun h => h2 ((lst_pop (by omega)).1 h), fun e he hb => ?_⟩
    have := L.ord.lt i o e h1 he hb
    exact (lst_pop (by omega)).2 (h3 e he hb)
theorem ready_lt {listed : Array Bool} {i : Nat} (h : i ∈ Region.ready .any ops.pop listed) : i < ops.pop.size := by
  unfold Region.ready at h
  rw [List.mem_filter] at h
  simpa using h.1
theorem put_none (a : Act) (v : Value) : a.put none v = a := rfl
theorem put_eval {a : Act} {d t : Nat} {v : Value} (h : d ≠ t) : (a.put (some d) v).eval (.tmp t) = a.eval (.tmp t) := Act.eval_put fun e he hx => by
  cases he; cases hx; exact h rfl
theorem store_ran {a : Act} {w : World} {Q' : Exit → Act → World → Prop} (hp : Plain Q') {K : Act → World → Prop} {t : TypeId} {x y : Operand} (hop : oa.op = .store t x y) (hd : oa.dst = none) (h : oa.upon P a K Q' ((execOp a.eval oa).run P w)) : ∃ w1, (execOp a.eval oa).run P w = .ok .skip w1 ∧ K a w1 := by
  rw [exec_store hop] at h ⊢
  cases hr : (Instr.storeAt t (a.eval x) (a.eval y)).run P w with
  | ok z w1 =>
    rw [hr] at h
    have h : K (a.put oa.dst undef) w1 := h
    rw [hd, put_none] at h
    exact ⟨w1, rfl, h⟩
  | halt z w1 =>
    rw [hr] at h
    have h : oa.upon P a K Q' (.halt z w1) := h
    unfold Oper.upon at h
    split at h <;> first
      | (rename_i heq; cases heq; done)
      | (exact absurd (hp _ _ _ h) (by simp))
      | exact h.elim
theorem path (L : LateOk P ops bs I ob oa ta) : ∀ (fuel : Nat) (listed : Array Bool) (a : Act) (w : World), listed.size = ops.pop.size + 1 → Closed bs listed → (∀ j, (bsOf bs ops.pop.size).testBit j = true → Lst listed j) → wpAny P .any ops.pop (QL P I ob Q) fuel listed.pop a w →
    ∃ a1 w1, QL P I ob Q .normal a1 w1 ∧ (∀ t, (∀ j o, j < ops.pop.size → ops[j]? = some o → ¬ Lst listed j → o.dst ≠ some t) → a1.eval (.tmp t) = a.eval (.tmp t)) ∧ (Lst listed I.ia → w1 = w) ∧
      ∀ cbA oA, a1.eval (.tmp I.xa) = .pointer (some ⟨cbA, oA, none⟩) → ∀ cb, cb ≠ cbA → w1.heap[cb]? = w.heap[cb]? := by
  intro fuel
  induction fuel with
  | zero => intro listed a w hs hc hb h; exact ⟨a, w, h.2, fun _ _ => rfl, fun _ => rfl, fun _ _ _ _ _ => rfl⟩
  | succ fuel ih =>
    intro listed a w hs hc hb h
    cases hr : Region.ready .any ops.pop listed.pop with
    | nil => exact ⟨a, w, h.1 hr, fun _ _ => rfl, fun _ => rfl, fun _ _ _ _ _ => rfl⟩
    | cons i rest =>
      have hi : i ∈ Region.ready .any ops.pop listed.pop := by rw [hr]; exact List.mem_cons_self ..
      have hlt := ready_lt hi
      obtain ⟨o, h1, h2, h3⟩ := (ready_iff (by rw [hs, L.size])).1 ((ready_pop L hs hlt).1 hi)
      have hp := QL_plain (P := P) (I := I) (Q := Q) ob
      have hu := wpOp_quiet (by rw [pop_get hlt]; exact h1) (L.guard i o h1) hp (h.2 i hi)
      have hs' : (listed.setIfInBounds i true).size = ops.pop.size + 1 := by rw [Array.size_setIfInBounds]; exact hs
      have hc' : Closed bs (listed.setIfInBounds i true) := closed_set L.ord (by rw [hs, L.size]) h1 hc h3
      have hi' : i < listed.size := by omega
      have hb' : ∀ j, (bsOf bs ops.pop.size).testBit j = true → Lst (listed.setIfInBounds i true) j := fun j hj => (lst_set hi' j).2 (.inl (hb j hj))
      rcases L.rest i o hlt h1 with h4 | h4 | ⟨⟨t, x, y, e, h4, h5⟩, d, h6, h7, h8, h9⟩
      · exact absurd (hb i h4) h2
      · subst h4
        rw [L.ha] at h1
        cases h1
        obtain ⟨w1, e1, e2⟩ := store_ran hp L.ka L.da hu
        rw [← pop_set] at e2
        obtain ⟨a1, w2, q1, q2, q3, q4⟩ := ih _ a w1 hs' hc' hb' e2
        have hw2 := q3 ((lst_set hi' _).2 (.inr rfl))
        subst hw2
        refine ⟨a1, w2, q1, fun t ht => q2 t fun j o hj ho hn => ht j o hj ho fun hl => hn ((lst_set hi' _).2 (.inl hl)), fun hl => absurd hl h2, fun cbA oA hA cb hcb => ?_⟩
        have keep : ∀ t, (t = I.xa ∨ t = I.ya) → a1.eval (.tmp t) = a.eval (.tmp t) := by
          intro t ht
          refine q2 t fun j o hj ho hn hd => ?_
          rcases L.rest j o hj ho with g | rfl | ⟨_, d, g1, g2, g3, g4⟩
          · exact hn (hb' j g)
          · exact hn ((lst_set hi' _).2 (.inr rfl))
          · rw [g1] at hd; cases hd
            rcases g4 with g4 | g4
            · rcases ht with rfl | rfl
              · exact g4.1 rfl
              · exact g4.2 rfl
            · exact hn ((lst_set hi' _).2 (.inl (ready_closed L.ord L.ha hc h3 j g4)))
        obtain ⟨⟨cA, offA, cB, offB, f1, f2, f3, ⟨cs, ce, cf, f4⟩, f5, f6, f7⟩, _⟩ := q1
        rw [f1] at hA
        cases hA
        rw [keep I.xa (.inl rfl)] at f1
        rw [keep I.ya (.inr rfl)] at f6
        obtain ⟨_, g1⟩ := store_local (P := P) L.ka f1 f6 e1
        rcases g1 with ⟨u, z, g1, g2⟩ | g1 | ⟨cs0, e0, f0, cs', g1, g2⟩
        · rw [f4] at g2; cases g2
        · rw [g1] at e1; cases e1; rfl
        · rw [g2 w g1] at e1
          cases e1
          show (w.heap.setIfInBounds _ _)[cb]? = _
          rw [Array.getElem?_setIfInBounds, if_neg (fun e => hcb e.symm)]
      · obtain ⟨v, e1, e2⟩ := idx_indep h4 h5 hp hu
        rw [← pop_set] at e2
        obtain ⟨a1, w2, q1, q2, q3, q4⟩ := ih _ _ w hs' hc' hb' e2
        refine ⟨a1, w2, q1, fun t ht => ?_, fun hl => q3 ((lst_set hi' _).2 (.inl hl)), q4⟩
        rw [q2 t fun j o hj ho hn => ht j o hj ho fun hl => hn ((lst_set hi' _).2 (.inl hl)), h6]
        exact put_eval fun hdt => ht i o hlt h1 h2 (by rw [h6, hdt])
def Eff (P : Program) (I : LateI) (ob : Oper) (a : Act) (w1 w : World) : Prop := ∃ cb off cs e f oo, a.eval (.tmp I.xb) = .pointer (some ⟨cb, off, none⟩) ∧ w1.heap[cb]? = some (.cells cs e f) ∧
  (∀ w2 : World, w2.heap[cb]? = some (.cells cs e f) → (execOp a.eval ob).run P w2 = .ok .skip { w2 with heap := w2.heap.setIfInBounds cb oo }) ∧ w = { w1 with heap := w1.heap.setIfInBounds cb oo }
theorem last_congr (L : LateOk P ops bs I ob oa ta) {a a' : Act} (hx : a'.eval (.tmp I.xb) = a.eval (.tmp I.xb)) (hy : a'.eval (.tmp I.yb) = a.eval (.tmp I.yb)) : execOp a'.eval ob = execOp a.eval ob :=
  execOp_congr ob (fun cs b h => by rw [L.kb] at h; cases h) fun x hxm => by
    rw [L.kb] at hxm
    simp only [Op.operands, List.mem_toArray, List.mem_cons, List.not_mem_nil, or_false] at hxm
    rcases hxm with rfl | rfl
    · exact hx
    · exact hy
theorem late_done (L : LateOk P ops bs I ob oa ta) : ∀ (fuel : Nat) (listed : Array Bool) (a : Act) (w1 w : World), listed.size = ops.pop.size + 1 → Closed bs listed → Lst listed ops.pop.size → wpAny P .any ops.pop (QL P I ob Q) fuel listed.pop a w1 → Eff P I ob a w1 w → wpAny P .any ops Q fuel listed a w := by
  have fin : ∀ (listed : Array Bool) (a : Act) (w1 w : World), QL P I ob Q .normal a w1 → Eff P I ob a w1 w → Q .normal a w := by
    rintro listed a w1 w ⟨_, w2, h1, h2⟩ ⟨cb, off, cs, e, f, oo, h3, h4, h5, h6⟩
    rw [h5 w1 h4] at h1
    cases h1
    rw [h6]; exact h2
  have rlt : ∀ (listed : Array Bool), listed.size = ops.pop.size + 1 → Lst listed ops.pop.size → ∀ i ∈ Region.ready .any ops listed, i < ops.pop.size := by
    intro listed hs hl i hi
    obtain ⟨o, h1, h2, _⟩ := (ready_iff (by rw [hs, L.size])).1 hi
    have := (Array.getElem?_eq_some_iff.1 h1).1
    have hne : i ≠ ops.pop.size := fun e => h2 (e ▸ hl)
    have := L.size
    omega
  have nil : ∀ (listed : Array Bool), listed.size = ops.pop.size + 1 → Lst listed ops.pop.size → (Region.ready .any ops.pop listed.pop = [] ↔ Region.ready .any ops listed = []) := by
    intro listed hs hl
    constructor
    · intro h
      rw [List.eq_nil_iff_forall_not_mem]
      intro i hi
      have := (ready_pop L hs (rlt listed hs hl i hi)).2 hi
      rw [h] at this; cases this
    · intro h
      rw [List.eq_nil_iff_forall_not_mem]
      intro i hi
      have := (ready_pop L hs (ready_lt hi)).1 hi
      rw [h] at this; cases this
  intro fuel
  induction fuel with
  | zero => intro listed a w1 w hs hc hl h he; exact ⟨(nil listed hs hl).1 h.1, fin listed a w1 w h.2 he⟩
  | succ fuel ih =>
    intro listed a w1 w hs hc hl h he
    refine ⟨fun hr => fin listed a w1 w (h.1 ((nil listed hs hl).2 hr)) he, fun i hi => ?_⟩
    have hlt := rlt listed hs hl i hi
    have hip := (ready_pop L hs hlt).2 hi
    obtain ⟨o, h1, h2, h3⟩ := (ready_iff (by rw [hs, L.size])).1 hi
    have hp := QL_plain (P := P) (I := I) (Q := Q) ob
    have hu := wpOp_quiet (by rw [pop_get hlt]; exact h1) (L.guard i o h1) hp (h.2 i hip)
    have hs' : (listed.setIfInBounds i true).size = ops.pop.size + 1 := by rw [Array.size_setIfInBounds]; exact hs
    have hc' : Closed bs (listed.setIfInBounds i true) := closed_set L.ord (by rw [hs, L.size]) h1 hc h3
    have hi' : i < listed.size := by omega
    have hl' : Lst (listed.setIfInBounds i true) ops.pop.size := (lst_set hi' _).2 (.inl hl)
    refine (wpOp_go h1 (L.guard i o h1)).2 (.inl ?_)
    show o.upon P a _ Q ((execOp a.eval o).run P w)
    rcases L.rest i o hlt h1 with h4 | h4 | ⟨⟨t, x, y, e, h4, h5⟩, d, h6, h7, h8, h9⟩
    · exact absurd (hc _ i hl h4) h2
    · subst h4
      rw [L.ha] at h1
      cases h1
      obtain ⟨w1', e1, e2⟩ := store_ran hp L.ka L.da hu
      rw [← pop_set] at e2
      obtain ⟨a1, w2, q1, q2, q3, q4⟩ := path L _ _ a w1' hs' hc' (fun j hj => hc' _ j hl' hj) e2
      have hw2 := q3 ((lst_set hi' _).2 (.inr rfl))
      subst hw2
      have keep : ∀ t, (t = I.xa ∨ t = I.ya ∨ t = I.xb) → a1.eval (.tmp t) = a.eval (.tmp t) := by
        intro t ht
        refine q2 t fun j o hj ho hn hd => ?_
        rcases L.rest j o hj ho with g | rfl | ⟨_, d, g1, g2, g3, g4⟩
        · exact hn (hc' _ j hl' g)
        · exact hn ((lst_set hi' _).2 (.inr rfl))
        · rw [g1] at hd; cases hd
          rcases ht with rfl | rfl | rfl
          · rcases g4 with g4 | g4
            · exact g4.1 rfl
            · exact hn ((lst_set hi' _).2 (.inl (ready_closed L.ord L.ha hc h3 j g4)))
          · rcases g4 with g4 | g4
            · exact g4.2 rfl
            · exact hn ((lst_set hi' _).2 (.inl (ready_closed L.ord L.ha hc h3 j g4)))
          · exact g2 rfl
      obtain ⟨⟨cA, offA, cB, offB, f1, f2, f3, ⟨cs, ce, cf, f4⟩, f5, f6, f7⟩, _⟩ := q1
      rw [keep I.xa (.inl rfl)] at f1
      rw [keep I.ya (.inr (.inl rfl))] at f6
      rw [keep I.xb (.inr (.inr rfl))] at f2
      obtain ⟨cb, off, cs1, e3, f8, oo, k1, k2, k3, k4⟩ := he
      rw [k1] at f2
      cases f2
      obtain ⟨_, g1⟩ := store_local (P := P) L.ka f1 f6 e1
      rcases g1 with ⟨u, z, g1, g2⟩ | g1 | ⟨cs0, e0, f0, cs', g1, g2⟩
      · rw [f4] at g2; cases g2
      · rw [g1 w]
        rw [g1 w1] at e1
        cases e1
        show wpAny P .any ops Q fuel _ (a.put oa.dst undef) w
        rw [L.da, put_none]
        exact ih _ a w1 w hs' hc' hl' e2 ⟨cB, offB, cs1, e3, f8, oo, k1, k2, k3, k4⟩
      · have hwA : w.heap[cA]? = some (.cells cs0 e0 f0) := by
          rw [k4]
          show (w1.heap.setIfInBounds cB oo)[cA]? = _
          rw [Array.getElem?_setIfInBounds, if_neg (fun e => f3 e.symm)]
          exact g1
        rw [g2 w hwA]
        rw [g2 w1 g1] at e1
        cases e1
        show wpAny P .any ops Q fuel _ (a.put oa.dst undef) _
        rw [L.da, put_none]
        refine ih _ a _ _ hs' hc' hl' e2 ⟨cB, offB, cs1, e3, f8, oo, k1, ?_, k3, ?_⟩
        · show (w1.heap.setIfInBounds cA _)[cB]? = _
          rw [Array.getElem?_setIfInBounds, if_neg f3]
          exact k2
        · rw [k4]
          show ({ w1 with heap := (w1.heap.setIfInBounds cB oo).setIfInBounds cA _ } : World) = { w1 with heap := (w1.heap.setIfInBounds cA _).setIfInBounds cB oo }
          rw [Array.setIfInBounds_comm _ _ (fun e => f3 e.symm)]
    · obtain ⟨v, e1, e2⟩ := idx_indep h4 h5 hp hu
      rw [← pop_set] at e2
      rw [e1 w]
      show wpAny P .any ops Q fuel _ (a.put o.dst v) w
      refine ih _ _ w1 w hs' hc' hl' e2 ?_
      obtain ⟨cb, off, cs1, e3, f8, oo, k1, k2, k3, k4⟩ := he
      have x1 : (a.put o.dst v).eval (.tmp I.xb) = a.eval (.tmp I.xb) := by rw [h6]; exact put_eval h7
      have x2 : (a.put o.dst v).eval (.tmp I.yb) = a.eval (.tmp I.yb) := by rw [h6]; exact put_eval h8
      exact ⟨cb, off, cs1, e3, f8, oo, x1.trans k1, k2, fun w2 hw2 => by rw [last_congr L x1 x2]; exact k3 w2 hw2, k4⟩
theorem late_now (L : LateOk P ops bs I ob oa ta) {fuel : Nat} {listed : Array Bool} {a : Act} {w : World} (hs : listed.size = ops.pop.size + 1) (hc : Closed bs listed) (h3 : ∀ e ∈ ob.after.toList, Region.binds .any e = true → Lst listed e.on)
    (h : wpAny P .any ops.pop (QL P I ob Q) fuel listed.pop a w) : wpOp P ops Q ops.pop.size (wpAny P .any ops Q fuel (listed.setIfInBounds ops.pop.size true)) a w := by
  have hb : ∀ j, (bsOf bs ops.pop.size).testBit j = true → Lst listed j := ready_closed L.ord L.hb hc h3
  obtain ⟨a1, w1, q1, q2, _, q4⟩ := path L fuel listed a w hs hc hb h
  obtain ⟨⟨cA, offA, cB, offB, f1, f2, f3, _, ⟨cs, ce, cf, f5⟩, f6, f7⟩, w2, e1, _⟩ := q1
  have keep : ∀ t, (t = I.xb ∨ t = I.yb) → a1.eval (.tmp t) = a.eval (.tmp t) := by
    intro t ht
    refine q2 t fun j o hj ho hn hd => ?_
    rcases L.rest j o hj ho with g | rfl | ⟨_, d, g1, g2, g3, g4⟩
    · exact hn (hb j g)
    · rw [L.ha] at ho; cases ho; rw [L.da] at hd; cases hd
    · rw [g1] at hd; cases hd
      rcases ht with rfl | rfl
      · exact g2 rfl
      · exact g3 rfl
  have hB : w.heap[cB]? = some (.cells cs ce cf) := by rw [← q4 cA offA f1 cB (fun e => f3 e.symm)]; exact f5
  rw [last_congr L (keep I.xb (.inl rfl)) (keep I.yb (.inr rfl))] at e1
  rw [keep I.xb (.inl rfl)] at f2
  rw [keep I.yb (.inr rfl)] at f7
  obtain ⟨_, g1⟩ := store_local (P := P) L.kb f2 f7 e1
  refine (wpOp_go L.hb (L.guard _ _ L.hb)).2 (.inl ?_)
  show ob.upon P a _ Q ((execOp a.eval ob).run P w)
  have hn : ops.pop.size < listed.size := by omega
  have go : ∀ oo, (∀ w2 : World, w2.heap[cB]? = some (.cells cs ce cf) → (execOp a.eval ob).run P w2 = .ok .skip { w2 with heap := w2.heap.setIfInBounds cB oo }) → ob.upon P a (wpAny P .any ops Q fuel (listed.setIfInBounds ops.pop.size true)) Q ((execOp a.eval ob).run P w) := by
    intro oo hoo
    rw [hoo w hB]
    show wpAny P .any ops Q fuel _ (a.put ob.dst undef) _
    rw [L.db, put_none]
    refine late_done L fuel _ a w _ (by rw [Array.size_setIfInBounds]; exact hs) (closed_set L.ord (by rw [hs, L.size]) L.hb hc h3) ((lst_set hn _).2 (.inr rfl)) ?_ ⟨cB, offB, cs, ce, cf, oo, f2, hB, hoo, rfl⟩
    rw [pop_set_last hs]
    exact h
  rcases g1 with ⟨u, z, g1, g2⟩ | g1 | ⟨cs0, e0, f0, cs', g1, g2⟩
  · rw [f5] at g1; cases g1
  · exact go (.cells cs ce cf) fun w2 hw2 => by rw [setO_eq hw2]; exact g1 w2
  · rw [f5] at g1
    cases g1
    exact go _ g2
theorem late_any (L : LateOk P ops bs I ob oa ta) : ∀ (fuel : Nat) (listed : Array Bool) (a : Act) (w : World), listed.size = ops.pop.size + 1 → Closed bs listed → ¬ Lst listed ops.pop.size → listed.pop.toList.countP (· == false) ≤ fuel → wpAny P .any ops.pop (QL P I ob Q) fuel listed.pop a w → wpAny P .any ops Q (fuel + 1) listed a w := by
  have nil : ∀ (listed : Array Bool), listed.size = ops.pop.size + 1 → ¬ Lst listed ops.pop.size → Region.ready .any ops listed ≠ [] := by
    intro listed hs hl h
    exact hl (ready_nil L.ord (by rw [hs, L.size]) h ops.pop.size (by rw [L.size]; omega))
  have two : ∀ (listed : Array Bool) (i : Nat), listed.size = ops.pop.size + 1 → i ∈ Region.ready .any ops listed → (i = ops.pop.size) ∨ (i < ops.pop.size ∧ ∃ k, k < listed.pop.toList.length ∧ listed.pop.toList[k]? = some false ∧ k = i) := by
    intro listed i hs hi
    obtain ⟨o, h1, h2, h3⟩ := (ready_iff (by rw [hs, L.size])).1 hi
    have h4 := (Array.getElem?_eq_some_iff.1 h1).1
    rw [L.size] at h4
    by_cases e : i = ops.pop.size
    · exact .inl e
    · have hlt : i < ops.pop.size := by omega
      have hpl : i < listed.pop.size := by rw [Array.size_pop]; omega
      refine .inr ⟨hlt, i, by simpa using hpl, ?_, rfl⟩
      have : ¬ Lst listed.pop i := fun h => h2 ((lst_pop (by omega)).1 h)
      unfold Lst at this
      rw [Array.getElem?_eq_getElem hpl] at this
      rw [Array.getElem?_toList, Array.getElem?_eq_getElem hpl]
      cases hq : listed.pop[i] with
      | false => rfl
      | true => rw [hq] at this; exact absurd rfl this
  intro fuel
  induction fuel with
  | zero =>
    intro listed a w hs hc hl hn h
    refine ⟨fun hr => absurd hr (nil listed hs hl), fun i hi => ?_⟩
    rcases two listed i hs hi with rfl | ⟨hlt, k, k1, k2, k3⟩
    · obtain ⟨o, h1, h2, h3⟩ := (ready_iff (by rw [hs, L.size])).1 hi
      rw [L.hb] at h1; cases h1
      exact late_now L hs hc h3 h
    · have : 0 < listed.pop.toList.countP (· == false) := List.countP_pos_iff.2 ⟨false, List.mem_of_getElem? k2, rfl⟩
      omega
  | succ fuel ih =>
    intro listed a w hs hc hl hn h
    refine ⟨fun hr => absurd hr (nil listed hs hl), fun i hi => ?_⟩
    rcases two listed i hs hi with rfl | ⟨hlt, k, k1, k2, k3⟩
    · obtain ⟨o, h1, h2, h3⟩ := (ready_iff (by rw [hs, L.size])).1 hi
      rw [L.hb] at h1; cases h1
      exact late_now L hs hc h3 h
    · subst k3
      obtain ⟨o, h1, h2, h3⟩ := (ready_iff (by rw [hs, L.size])).1 hi
      have hu := wpOp_quiet (by rw [pop_get hlt]; exact h1) (L.guard k o h1) (QL_plain (P := P) (I := I) (Q := Q) ob) (h.2 k ((ready_pop L hs hlt).2 hi))
      refine (wpOp_go h1 (L.guard k o h1)).2 (.inl (upon_plain (QL_plain (P := P) (I := I) (Q := Q) ob) (fun a' w' h' => ?_) hu))
      have hk : k < listed.size := by omega
      refine ih _ a' w' (by rw [Array.size_setIfInBounds]; exact hs) (closed_set L.ord (by rw [hs, L.size]) h1 hc h3) (fun hh => ?_) ?_ (by rw [pop_set]; exact h')
      · rcases (lst_set hk _).1 hh with hh | hh
        · exact hl hh
        · omega
      · rw [pop_set, Array.toList_setIfInBounds, List.countP_set k1]
        have hf : (listed.pop.toList[k] == false) = true := by
          have := (List.getElem?_eq_some_iff.1 k2).2
          rw [this]; rfl
        have : 0 < listed.pop.toList.countP (· == false) := List.countP_pos_iff.2 ⟨false, List.mem_of_getElem? k2, rfl⟩
        rw [if_pos hf, if_neg (by simp)]
        omega
end
section
variable {P : Program} {X : Ext} {call : CallH}
theorem one_cells {ρ : Rho} {v : AV} {x : Value} {cs : List AV} (h : v.cells = .ok cs) (hx : den ρ v = some x) : ∀ y ∈ x.cells.toList, y.oneCell' = true := by
  obtain ⟨ys, h1, h2, h3⟩ := cells_den h hx
  intro y hy
  rw [h2] at hy
  have hy : y ∈ ys := by simpa using hy
  obtain ⟨i, hi, rfl⟩ := List.mem_iff_getElem.1 hy
  have hl := denL_length h1
  obtain ⟨z, h4, h5⟩ := denL_get h1 i cs[i] (List.getElem?_eq_getElem (by omega))
  rw [List.getElem?_eq_getElem hi] at h4
  cases h4
  have := den_one (List.all_eq_true.1 h3 _ (List.getElem_mem _)) h5
  cases hq : ys[i] <;> first | rfl | (rw [hq] at this; cases this)
theorem cells_at {ρ : Rho} {h : AH} {w : World} {b : Id} {lc : Loc} {o : AO} (m : Mem P ρ h w) (hl : ρ b = some lc) (hb : Q.get b h.tr = some o) (hp : o.isCells = true) : ∃ cs e f, w.heap[lc.cb]? = some (.cells cs e f) := by
  have ho := m.obj b o lc hb hl
  cases o with
  | box e ro c => obtain ⟨cs, e', z, h1, _⟩ := ho; exact ⟨cs, e', _, h1⟩
  | cells e ro op es size fr c => obtain ⟨cs, lo, hi, h1, _⟩ := ho; exact ⟨cs, _, _, h1⟩
  | map es c => cases hp
theorem storeF_nx {n : Nat} {x y : Opd} {l : List AV} {tm : Q AV} {h h' : AH} {v : AV} (hh : storeF n x y call l tm h = .ok (v, h')) : h'.nx = h.nx := by
  obtain ⟨_, _, h1⟩ := bind_eq.1 hh
  obtain ⟨_, _, h2⟩ := bind_eq.1 h1
  obtain ⟨_, _, _, h3⟩ := onPtr_eq.1 h2
  obtain ⟨_, _, h4⟩ := bind_eq.1 h3
  obtain ⟨_, h5⟩ := tst_eq.1 h4
  obtain ⟨_, _, h6⟩ := bind_eq.1 h5
  obtain ⟨_, _, h7⟩ := bind_eq.1 h6
  cases h7; rfl
theorem draw_ok (hc : CallOk P X call) : DrawOk P call := by
  intro id ops E E' ac hreg hP ρ s a w s' Qx st hr hf hq
  obtain ⟨⟨as, E1⟩, h1, h2⟩ := bind_eq.1 hreg
  rw [bsel_eq, if_pos rfl] at h2
  obtain ⟨hmix, h4⟩ := tst_eq.1 h2
  rw [hP] at hmix
  rw [bsel_eq] at h4
  split at h4
  · rename_i hdo
    cases h4
    exact wp_region_any hmix (draw_any hc h1 hdo hP st hr hf hq)
  · obtain ⟨I, as', n, fa, ga, fb, gb, g1, g2, g3, g4, g5, g6, g7, g8, rfl⟩ := late_cases h4
    rw [hP] at g1 g4
    obtain ⟨ob, oa, ta, L⟩ := lateOk_eq (drawOk_lt g3) g1
    refine wp_region_any hmix ?_
    rw [L.size]
    have hr : (runA call (.draw (drawOpers (befs ops.pop.toList []) (loudsOf as' 0) (len as') as' 0)) s).then (runA call (.ops [.op .no (.rd (chkF fa ga fb gb)), .op .no (.mem (storeF n fb gb))])) = .norm s' := hr
    rcases drawK_form (call := call) (l := drawOpers (befs ops.pop.toList []) (loudsOf as' 0) (len as') as' 0) (s := s) with ⟨s1, h9⟩ | ⟨e, h9⟩
    rotate_left
    · rw [h9] at hr; cases hr
    rw [h9] at hr
    have hr : opsK call [.op .no (.rd (chkF fa ga fb gb)), .op .no (.mem (storeF n fb gb))] s1.l s1.tm s1.hp s1.df = .norm s' := hr
    have hr : R.rec (motive := fun _ => CR) (fun v => (R.rec (motive := fun _ => CR) (fun r => CR.norm ⟨s1.l, s1.tm, r.2, s1.df⟩) CR.err (storeF n fb gb call s1.l s1.tm s1.hp) : CR)) CR.err (chkF fa ga fb gb s1.l s1.tm s1.hp) = .norm s' := hr
    obtain ⟨vc, hchk, hr⟩ := rec_norm hr
    obtain ⟨⟨vs, h'⟩, hsto, hr⟩ := rec_norm hr
    cases hr
    have hnx := storeF_nx hsto
    have hf1 : Free ρ s.hp s1.hp := by
      intro b b1 b2
      exact hf b b1 (by show num b < num h'.nx; rw [hnx]; exact b2)
    have main := draw_any (Qx := QL P I ob Qx) hc g2 g3 hP st h9 hf1 (fun ρ' a' w' hst st' hgr => ?_)
    · have hcl : Closed (befs ops.toList []) (Array.replicate (ops.pop.size + 1) false) := by
        intro i j hi
        unfold Lst at hi
        rw [Array.getElem?_replicate] at hi
        split at hi <;> cases hi
      have hpop : (Array.replicate (ops.pop.size + 1) false).pop = Array.replicate ops.pop.size false := by
        apply Array.ext_getElem?
        intro j
        rw [Array.getElem?_pop, Array.getElem?_replicate, Array.getElem?_replicate]
        simp only [Array.size_replicate]
        split <;> split <;> (try split) <;> first | rfl | omega
      refine late_any L ops.pop.size _ a _ (by simp) hcl (fun hh => ?_) ?_ (by rw [hpop]; exact main)
      · unfold Lst at hh
        rw [Array.getElem?_replicate] at hh
        split at hh <;> cases hh
      · rw [hpop, Array.toList_replicate, List.countP_replicate]
        simp
    · have hP' : E'.P = P := hgr.prog.trans hP
      have opd : ∀ {t : Nat} {f : Opd} {v : AV}, E'.opd (.tmp t) = .ok f → f s1.l s1.tm = .ok v → den ρ' v = some (a'.eval (.tmp t)) := fun hf' hv => opd_ok hP' st'.mem st'.env (.tmp _) _ _ hf' hv
      obtain ⟨p, c1, hchk⟩ := bind_eq.1 hchk
      obtain ⟨v, c2, hchk⟩ := bind_eq.1 hchk
      obtain ⟨q, c3, hchk⟩ := bind_eq.1 hchk
      obtain ⟨u, c4, hchk⟩ := bind_eq.1 hchk
      obtain ⟨b, off, rfl, hchk⟩ := onPtr_eq.1 hchk
      have hchk : onPtr 363 (fun b' _ => v.cells.bind fun _ => u.cells.bind fun _ => (s1.hp.obj b).bind fun o => (s1.hp.obj b').bind fun o' => tst 364 (band (bnot (idEq b b')) (band (bnot o.ro) (band o.isCells o'.isCells))) (.ok .undef)) q = .ok vc := hchk
      obtain ⟨b', off', rfl, hchk⟩ := onPtr_eq.1 hchk
      obtain ⟨cs, c5, hchk⟩ := bind_eq.1 hchk
      obtain ⟨cs', c6, hchk⟩ := bind_eq.1 hchk
      obtain ⟨o, c7, hchk⟩ := bind_eq.1 hchk
      obtain ⟨o', c8, hchk⟩ := bind_eq.1 hchk
      obtain ⟨c9, _⟩ := tst_eq.1 hchk
      simp only [band_eq, bnot_eq, Bool.and_eq_true, Bool.not_eq_true'] at c9
      obtain ⟨d1, d2, d3, d4⟩ := c9
      have c7 := AX.Q.at_eq.1 c7
      have c8 := AX.Q.at_eq.1 c8
      obtain ⟨la, k1, k2⟩ := den_ptr_eq ρ' (opd g5 c1)
      obtain ⟨lb, k3, k4⟩ := den_ptr_eq ρ' (opd g7 c3)
      have hne : b ≠ b' := fun e => by subst e; rw [idEq_refl] at d1; cases d1
      refine ⟨⟨la.cb, la.co + off, lb.cb, lb.co + off', k2, k4, ?_, cells_at st'.mem k1 c7 d3, cells_at st'.mem k3 c8 d4, one_cells c5 (opd g6 c2), one_cells c6 (opd g8 c4)⟩, ?_⟩
      · rcases st'.mem.apart b b' o o' la lb c7 c8 k1 k3 hne with h | ⟨h, _⟩
        · exact h
        · rw [d2] at h; cases h
      · obtain ⟨dst, op, ty, pos, after, guard⟩ := ob
        have kb := L.kb
        have db := L.db
        have gd := L.guard _ _ L.hb
        simp only at kb db gd
        subst kb; subst db; subst gd
        have hk := store_ok (X := X) (P := P) (E := E') (dst := none) (ty := ty) (pos := pos) (after := after) (g := none) g4 g7 g8
        have hfr : Free ρ' s1.hp h' := fun b b1 b2 => by rw [hnx] at b2; omega
        have hopds : OpdsOk ρ' E' s1.l s1.tm a'.eval ⟨none, .store I.tb (.tmp I.xb) (.tmp I.yb), ty, pos, after, none⟩ := fun x _ => opd_ok hP' st'.mem st'.env x
        have := hk call hc ρ' s1.l s1.tm s1.hp w' a' vs h' st'.mem hfr hopds hsto (fun a2 w2 => Qx .normal a2 w2) (fun _ _ _ => False) (fun ρ'' w'' x hs hm hx => by
          refine hq ρ'' a' w'' (hst.trans hs) ⟨st'.env.mono hs.ext, hm, st'.df.mono hs.ext⟩ hgr)
        have hu : Oper.upon P ⟨none, .store I.tb (.tmp I.xb) (.tmp I.yb), ty, pos, after, none⟩ a' (fun a2 w2 => Qx .normal a2 w2) (fun _ _ _ => False) ((execOp a'.eval ⟨none, .store I.tb (.tmp I.xb) (.tmp I.yb), ty, pos, after, none⟩).run P w') := this
        obtain ⟨w2, e1, e2⟩ := store_ran (Q' := fun _ _ _ => False) (fun _ _ _ h => h.elim) rfl rfl hu
        exact ⟨w2, e1, e2⟩
end
end Go.AX
/- The abstract executor: a coin, and the two ways behind it: what both leave. -/
namespace Go.AX
section
variable {P : Program} {X : Ext} {call : CallH}
theorem opK_keep {d : Dst} {k : OpK} {K : K} {l : List AV} {tm : Q AV} {h : AH} {df : List ADefer} {s : St} (hr : opK call d k K l tm h df = .norm s) : ∃ l' tm' h', K l' tm' h' df = .norm s ∧ ∀ p, p ∉ dstW d → Q.get p tm' = Q.get p tm := by
  have put : ∀ v l tm h, putK d K v l tm h df = .norm s → ∃ l' tm' h', K l' tm' h' df = .norm s ∧ ∀ p, p ∉ dstW d → Q.get p tm' = Q.get p tm := by
    intro v l tm h hp
    cases d with
    | loc => exact ⟨_, _, _, hp, fun _ _ => rfl⟩
    | slot q => exact ⟨_, _, _, hp, fun p hn => Q.get_set_other _ (fun e => hn (by subst e; exact List.mem_singleton.2 rfl)) _⟩
    | no => exact ⟨_, _, _, hp, fun _ _ => rfl⟩
  cases k with
  | pur f => rw [opK_pur] at hr; obtain ⟨v, _, h2⟩ := rec_norm hr; exact put _ _ _ _ h2
  | rd f => rw [opK_rd] at hr; obtain ⟨v, _, h2⟩ := rec_norm hr; exact put _ _ _ _ h2
  | alc f => rw [opK_alc] at hr; obtain ⟨v, _, h2⟩ := rec_norm hr; exact put _ _ _ _ h2
  | mem f => rw [opK_mem] at hr; obtain ⟨v, _, h2⟩ := rec_norm hr; exact put _ _ _ _ h2
theorem operK_keep {o : AOper} {W : List Id} (ho : opW o = .ok W) {K : K} {l : List AV} {tm : Q AV} {h : AH} {df : List ADefer} {s : St} (hr : operK call o K l tm h df = .norm s) : ∃ l' tm' h', K l' tm' h' df = .norm s ∧ ∀ p, p ∉ W → Q.get p tm' = Q.get p tm := by
  cases o with
  | op d k => cases ho; exact opK_keep hr
  | grd g want d k =>
    cases ho
    obtain ⟨v, _, h2⟩ := rec_norm hr
    rw [bsel_eq] at h2
    split at h2
    · exact opK_keep h2
    · cases d with
      | loc => exact ⟨_, _, _, h2, fun _ _ => rfl⟩
      | slot q => exact ⟨_, _, _, h2, fun p hn => Q.get_set_other _ (fun e => hn (by subst e; exact List.mem_singleton.2 rfl)) _⟩
      | no => exact ⟨_, _, _, h2, fun _ _ => rfl⟩
  | dfr f args => cases ho
theorem opsW_cons (o : AOper) (as : List AOper) : opsW (o :: as) = (opW o).bind fun a => (opsW as).bind fun b => .ok (app a b) := rfl
theorem opsK_keep : ∀ {as : List AOper} {W : List Id} {l : List AV} {tm : Q AV} {h : AH} {df : List ADefer} {s : St}, opsW as = .ok W → opsK call as l tm h df = .norm s → s.df = df ∧ ∀ p, p ∉ W → Q.get p s.tm = Q.get p tm
  | [], W, l, tm, h, df, s, hw, hr => by
    have hr : CR.norm ⟨l, tm, h, df⟩ = .norm s := hr
    cases hr; exact ⟨rfl, fun _ _ => rfl⟩
  | o :: as, W, l, tm, h, df, s, hw, hr => by
    rw [opsW_cons] at hw
    obtain ⟨a, h1, hw⟩ := bind_eq.1 hw
    obtain ⟨b, h2, hw⟩ := bind_eq.1 hw
    cases hw
    rw [opsK_cons] at hr
    obtain ⟨l', tm', h', h3, h4⟩ := operK_keep h1 hr
    obtain ⟨h5, h6⟩ := opsK_keep h2 h3
    rw [app_eq]
    exact ⟨h5, fun p hp => by rw [h6 p (fun e => hp (List.mem_append_right _ e)), h4 p (fun e => hp (List.mem_append_left _ e))]⟩
theorem put_keep (s : DSt) (d : Dst) (v : AV) : ∀ p, p ∉ dstW d → Q.get p (s.put d v).tm = Q.get p s.tm := by
  intro p hn
  cases d with
  | slot q => exact Q.get_set_other _ (fun e => hn (by subst e; exact List.mem_singleton.2 rfl)) _
  | _ => rfl
theorem opD_keep {d : Dst} {k : OpK} {pos : Nat} {oks : List Nat} {s s' : DSt} (hr : opD call d k pos oks s = .ok s') : ∀ p, p ∉ dstW d → Q.get p s'.tm = Q.get p s.tm := by
  cases k with
  | pur f => obtain ⟨v, _, h⟩ := bind_eq.1 hr; cases h; exact put_keep s d v
  | rd f =>
    obtain ⟨g, _, h⟩ := bind_eq.1 hr
    obtain ⟨v, _, h⟩ := bind_eq.1 h
    cases h; exact put_keep _ d v
  | alc f => obtain ⟨v, _, h⟩ := bind_eq.1 hr; cases h; exact put_keep _ d _
  | mem f => obtain ⟨v, _, h⟩ := bind_eq.1 hr; cases h; exact put_keep _ d _
theorem operD_keep {o : DOper} {W : List Id} (ho : opW o.o = .ok W) {s s' : DSt} (hr : operD call o s = .ok s') : ∀ p, p ∉ W → Q.get p s'.tm = Q.get p s.tm := by
  obtain ⟨ao, pos, oks⟩ := o
  cases ao with
  | op d k => cases ho; exact opD_keep hr
  | grd g want d k =>
    cases ho
    obtain ⟨v, _, h⟩ := bind_eq.1 hr
    rw [bsel_eq] at h
    split at h
    · exact opD_keep h
    · split at h <;> (cases h; exact put_keep _ d _)
  | dfr f args => cases ho
theorem opsD_cons (o : DOper) (l : List DOper) (s : DSt) : opsD call (o :: l) s = (operD call o s).bind (opsD call l) := rfl
theorem opsD_keep : ∀ {l : List DOper} {W : List Id} {s s' : DSt}, opsW (l.map (·.o)) = .ok W → opsD call l s = .ok s' → ∀ p, p ∉ W → Q.get p s'.tm = Q.get p s.tm
  | [], W, s, s', hw, hr => by
    have hr : R.ok s = .ok s' := hr
    cases hr; exact fun _ _ => rfl
  | o :: l, W, s, s', hw, hr => by
    rw [List.map_cons, opsW_cons] at hw
    obtain ⟨a, h1, hw⟩ := bind_eq.1 hw
    obtain ⟨b, h2, hw⟩ := bind_eq.1 hw
    cases hw
    rw [opsD_cons] at hr
    obtain ⟨s1, h3, h4⟩ := bind_eq.1 hr
    intro p hp
    rw [app_eq] at hp
    rw [opsD_keep h2 h4 p (fun e => hp (List.mem_append_right _ e)), operD_keep h1 h3 p (fun e => hp (List.mem_append_left _ e))]
theorem codeW_keep : ∀ (c : ACode) {W : List Id} {s s' : St}, codeW c = .ok W → runA call c s = .norm s' → s'.df = s.df ∧ ∀ p, p ∉ W → Q.get p s'.tm = Q.get p s.tm
  | .skip, W, s, s', hw, hr => by
    have hr : CR.norm s = .norm s' := hr
    cases hr; exact ⟨rfl, fun _ _ => rfl⟩
  | .ops l, W, s, s', hw, hr => opsK_keep (l := s.l) (tm := s.tm) (h := s.hp) (df := s.df) hw hr
  | .draw l, W, s, s', hw, hr => by
    have hr : R.rec (motive := fun _ => CR) (fun t : DSt => CR.norm ⟨t.l, t.tm, t.hp, s.df⟩) CR.err (runD call l s.l s.tm s.hp) = .norm s' := hr
    obtain ⟨t, h1, h2⟩ := rec_norm hr
    cases h2
    obtain ⟨t1, h3, h4⟩ := bind_eq.1 h1
    obtain ⟨_, _, h5⟩ := bind_eq.1 h4
    cases h5
    exact ⟨rfl, opsD_keep hw h3⟩
  | .seq x y, W, s, s', hw, hr => by
    obtain ⟨a, h1, hw⟩ := bind_eq.1 hw
    obtain ⟨b, h2, hw⟩ := bind_eq.1 hw
    cases hw
    have hr : (runA call x s).then (runA call y) = .norm s' := hr
    cases hx : runA call x s with
    | norm s1 =>
      rw [hx] at hr
      have hr : runA call y s1 = .norm s' := hr
      obtain ⟨g1, g2⟩ := codeW_keep x h1 hx
      obtain ⟨g3, g4⟩ := codeW_keep y h2 hr
      rw [app_eq]
      exact ⟨g3.trans g1, fun p hp => by rw [g4 p (fun e => hp (List.mem_append_right _ e)), g2 p (fun e => hp (List.mem_append_left _ e))]⟩
    | _ => rw [hx] at hr; cases hr
  | .cond _ _ _, W, s, s', hw, hr => by cases hw
  | .block _ _, W, s, s', hw, hr => by cases hw
  | .loop _, W, s, s', hw, hr => by cases hw
  | .exit _, W, s, s', hw, hr => by cases hw
  | .ret, W, s, s', hw, hr => by cases hw
  | .bad _, W, s, s', hw, hr => by cases hw
  | .both .., W, s, s', hw, hr => by cases hw

theorem frSame_eq {a b : Fr} (h : frSame a b = true) : a = b := by
  unfold frSame at h
  split at h
  · rfl
  · rw [band_eq, Bool.and_eq_true, natBeq_eq, natBeq_eq] at h; rw [h.1, h.2]
  · rfl
  · cases h
theorem optSame_eq {x y : Option (List AV)} (h : optSame x y = true) : x = y := by
  unfold optSame at h
  split at h
  · rfl
  · rw [flatSameL_eq h]
  · cases h
theorem qSame_eq : ∀ {c d : Q (List AV)}, qSame c d = true → c = d
  | .nil, .nil, _ => rfl
  | .nil, .node .., h => by cases h
  | .node .., .nil, h => by cases h
  | .node v a b c d, .node v' a' b' c' d', h => by
    have h : band (optSame v v') (band (qSame a a') (band (qSame b b') (band (qSame c c') (qSame d d')))) = true := h
    simp only [band_eq, Bool.and_eq_true] at h
    obtain ⟨h1, h2, h3, h4, h5⟩ := h
    rw [optSame_eq h1, qSame_eq h2, qSame_eq h3, qSame_eq h4, qSame_eq h5]
theorem objSame_eq {o o' : AO} (h : objSame o o' = true) : o = o' := by
  unfold objSame at h
  split at h
  · simp only [band_eq, Bool.and_eq_true, natBeq_eq, bEq_eq, beq_iff_eq] at h
    obtain ⟨rfl, rfl, h⟩ := h
    rw [flatSameL_eq h]
  · simp only [band_eq, Bool.and_eq_true, natBeq_eq, bEq_eq, beq_iff_eq] at h
    obtain ⟨rfl, rfl, rfl, rfl, rfl, h1, h2⟩ := h
    rw [frSame_eq h1, qSame_eq h2]
  · cases h
theorem meetAt_eq {x y : Q AO} {b : Id} {o : AO} (h : meetAt x y b = some o) : Q.get b x = some o ∧ Q.get b y = some o := by
  unfold meetAt at h
  split at h
  · rename_i o1 o2 h1 h2
    rw [bsel_eq] at h
    split at h
    · rename_i h3
      cases h
      rw [← objSame_eq h3] at h2
      exact ⟨h1, h2⟩
    · cases h
  · cases h
theorem restrict_get (tr : Q AO) : ∀ (l : List Id) (q : Id), Q.get q (restrict l tr) = if q ∈ l then Q.get q tr else none
  | [], q => by
    show Q.get q .nil = _
    cases q <;> rfl
  | b :: l, q => by
    show Q.get q (Q.set b (Q.get b tr) (restrict l tr)) = _
    rw [Q.get_set, restrict_get tr l q]
    by_cases e : q = b
    · subst e; simp
    · simp [e]
theorem mergeT_get (x y tr : Q AO) : ∀ (l : List Id) (q : Id), Q.get q (mergeT l x y tr) = if q ∈ l then meetAt x y q else Q.get q tr
  | [], q => rfl
  | b :: l, q => by
    show Q.get q (Q.set b (meetAt x y b) (mergeT l x y tr)) = _
    rw [Q.get_set, mergeT_get x y tr l q]
    by_cases e : q = b
    · subst e; simp
    · simp [e]
theorem dropS_get (tm : Q AV) : ∀ (l : List Id) (q : Id), Q.get q (dropS l tm) = if q ∈ l then none else Q.get q tm
  | [], q => rfl
  | b :: l, q => by
    show Q.get q (Q.set b none (dropS l tm)) = _
    rw [Q.get_set, dropS_get tm l q]
    by_cases e : q = b
    · subst e; simp
    · simp [e]
theorem val_range (x : D) : 1 ≤ x.val ∧ x.val ≤ 4 := by cases x <;> simp [D.val]
theorem val_inj {x y : D} (h : x.val = y.val) : x = y := by cases x <;> cases y <;> first | rfl | (simp [D.val] at h)
theorem num_one : ∀ {p q : Id}, num p = num q → p = q
  | [], [], _ => rfl
  | [], y :: s, h => by have := val_range y; simp only [num] at h; omega
  | x :: r, [], h => by have := val_range x; simp only [num] at h; omega
  | x :: r, y :: s, h => by
    have h1 := val_range x
    have h2 := val_range y
    simp only [num] at h
    have h3 : num r = num s := by omega
    have h4 : x.val = y.val := by omega
    rw [num_one h3, val_inj h4]
theorem idsTo_range : ∀ (n : Nat) (a b q : Id), num a ≤ num b → q ∈ idsTo n b a → num a ≤ num q ∧ num q < num b
  | 0, a, b, q, _, hq => by cases hq
  | n + 1, a, b, q, hab, hq => by
    have hq : q ∈ bsel (idEq a b) [] (a :: idsTo n b (succ a)) := hq
    rw [bsel_eq] at hq
    split at hq
    · cases hq
    · rename_i hne
      have hne : a ≠ b := fun e => hne (by subst e; exact idEq_refl a)
      have hlt : num a < num b := by
        rcases Nat.lt_or_ge (num a) (num b) with h | h
        · exact h
        · exact absurd (num_one (by omega)) hne
      rcases List.mem_cons.1 hq with rfl | hq
      · exact ⟨Nat.le_refl _, hlt⟩
      · have := idsTo_range n (succ a) b q (by rw [num_succ]; omega) hq
        rw [num_succ] at this
        omega
theorem Mem.ext {ρ : Rho} {h : AH} {w w' : World} (m : Mem P ρ h w) (hw : ∀ cb, cb < w.heap.size → w'.heap[cb]? = w.heap[cb]?) : Mem P ρ h w' :=
  ⟨fun b o l h1 h2 => ObjOk.mono (Rho.le_refl _) (hw _ (m.obj b o l h1 h2).lt) (m.obj b o l h1 h2), m.apart, m.glob, m.wf⟩
theorem both_one {ρ : Rho} {E Ez : CE} {s sz : St} {a' : Act} {w w1 w' : World} {ρ' : Rho} {T W : List Id} {x y : Q AO} (m : Mem P ρ s.hp w) (hw : ∀ cb, cb < w.heap.size → w1.heap[cb]? = w.heap[cb]?) (hsz : w.heap.size ≤ w1.heap.size) (hos : w1.os = w.os) (htape : w1.tape = w.tape) (hout : w1.output = w.output)
    (hT : ∀ b ∈ T, ρ b ≠ none ∧ ∀ o, Q.get b s.hp.tr = some o → o.ro = false) (hs : Step ρ ⟨restrict T s.hp.tr, s.hp.nx⟩ w1 ρ' sz.hp w') (hst : StOk P ρ' Ez sz a' w') (hg : Grows E s.l Ez sz.l) (hdf : sz.df = s.df) (hW : ∀ p, p ∉ W → Q.get p sz.tm = Q.get p s.tm)
    (hmeet : ∀ b o, meetAt x y b = some o → Q.get b sz.hp.tr = some o) :
    Step ρ s.hp w ρ' ⟨mergeT (T ++ idsTo 16 sz.hp.nx s.hp.nx) x y s.hp.tr, sz.hp.nx⟩ w' ∧ StOk P ρ' E ⟨s.l, dropS W s.tm, ⟨mergeT (T ++ idsTo 16 sz.hp.nx s.hp.nx) x y s.hp.tr, sz.hp.nx⟩, s.df⟩ a' w' := by
  have hnx : num s.hp.nx ≤ num sz.hp.nx := hs.nx
  have get : ∀ b o, Q.get b (mergeT (T ++ idsTo 16 sz.hp.nx s.hp.nx) x y s.hp.tr) = some o → (b ∉ T ∧ Q.get b s.hp.tr = some o) ∨ Q.get b sz.hp.tr = some o := by
    intro b o hb
    rw [mergeT_get] at hb
    split at hb
    · exact .inr (hmeet b o hb)
    · rename_i hn
      exact .inl ⟨fun h => hn (List.mem_append_left _ h), hb⟩
  -- an old block has its place in both maps
  have old : ∀ b o l, Q.get b s.hp.tr = some o → ρ' b = some l → ρ b = some l := by
    intro b o l hb hl
    rcases hs.dom b (by rw [hl]; simp) with h1 | ⟨h1, _⟩
    · cases hr : ρ b with
      | none => exact absurd hr h1
      | some l' => rw [hs.ext b l' hr] at hl; exact hl
    · have h1 : num s.hp.nx ≤ num b := h1
      have := m.wf b o hb
      omega
  have wr0 : ∀ cb, Wr ρ ⟨restrict T s.hp.tr, s.hp.nx⟩ cb → Wr ρ s.hp cb := by
    rintro cb ⟨b, o, l, h1, h2, h3, h4⟩
    have h1 : Q.get b (restrict T s.hp.tr) = some o := h1
    rw [restrict_get] at h1
    split at h1
    · exact ⟨b, o, l, h1, h2, h3, h4⟩
    · cases h1
  have own0 : ∀ cb, Own ρ ⟨restrict T s.hp.tr, s.hp.nx⟩ cb → ∃ b o l, b ∈ T ∧ Q.get b s.hp.tr = some o ∧ ρ b = some l ∧ l.cb = cb := by
    rintro cb ⟨b, o, l, h1, h3, h4⟩
    have h1 : Q.get b (restrict T s.hp.tr) = some o := h1
    rw [restrict_get] at h1
    split at h1
    · rename_i h2; exact ⟨b, o, l, h2, h1, h3, h4⟩
    · cases h1
  -- a block that is not touched stands as it stood
  have far : ∀ b o l, b ∉ T → Q.get b s.hp.tr = some o → ρ b = some l → w'.heap[l.cb]? = w.heap[l.cb]? := by
    intro b o l hn hb hl
    have hlt := (m.obj b o l hb hl).lt
    rw [hs.frame l.cb (by omega) ?_, hw _ hlt]
    rintro ⟨b2, o2, l2, h1, h2, h3, h4⟩
    have h1 : Q.get b2 (restrict T s.hp.tr) = some o2 := h1
    rw [restrict_get] at h1
    split at h1
    · rename_i h5
      rcases m.apart b b2 o o2 l l2 hb h1 hl h3 (fun e => hn (by rw [e]; exact h5)) with h6 | ⟨_, h6, _⟩
      · exact h6 h4.symm
      · rw [h2] at h6; cases h6
    · cases h1
  have mixed : ∀ b o l b' o' l', b ∉ T → Q.get b s.hp.tr = some o → ρ b = some l → Q.get b' sz.hp.tr = some o' → ρ' b' = some l' → l.cb ≠ l'.cb := by
    intro b o l b' o' l' hn hb hl hb' hl' e
    rcases hs.own l'.cb ⟨b', o', l', hb', hl', rfl⟩ with h1 | h1
    · obtain ⟨b2, o2, l2, g1, g2, g3, g4⟩ := own0 _ h1
      rcases m.apart b b2 o o2 l l2 hb g2 hl g3 (fun e => hn (by rw [e]; exact g1)) with h6 | ⟨_, h6, _⟩
      · exact h6 (e.trans g4.symm)
      · rw [(hT b2 g1).2 o2 g2] at h6; cases h6
    · have := (m.obj b o l hb hl).lt
      omega
  refine ⟨⟨hs.ext, hs.dom, hnx, hs.os.trans hos, hs.tape.trans htape, hs.output.trans hout, Nat.le_trans hsz hs.size, fun cb hcb hn => ?_, fun cb hcb => ?_, fun cb hcb => ?_, fun b hb hn => ?_⟩, ⟨?_, ⟨fun b o l hb hl => ?_, fun b b' o o' l l' hb hb' hl hl' hne => ?_, m.glob_le hs.ext, fun b o hb => ?_⟩, ?_⟩⟩
  · rw [hs.frame cb (by omega) (fun h => hn (wr0 cb h)), hw cb hcb]
  · obtain ⟨b, o, l, h1, h2, h3, h4⟩ := hcb
    rcases get b o h1 with ⟨h5, h6⟩ | h6
    · exact .inl ⟨b, o, l, h6, h2, old b o l h6 h3, h4⟩
    · rcases hs.wr cb ⟨b, o, l, h6, h2, h3, h4⟩ with h7 | h7
      · exact .inl (wr0 cb h7)
      · exact .inr (by omega)
  · obtain ⟨b, o, l, h1, h3, h4⟩ := hcb
    rcases get b o h1 with ⟨h5, h6⟩ | h6
    · exact .inl ⟨b, o, l, h6, old b o l h6 h3, h4⟩
    · rcases hs.own cb ⟨b, o, l, h6, h3, h4⟩ with h7 | h7
      · obtain ⟨b2, o2, l2, g1, g2, g3, g4⟩ := own0 _ h7
        exact .inl ⟨b2, o2, l2, g2, g3, g4⟩
      · exact .inr (by omega)
  · show Q.get b (mergeT (T ++ idsTo 16 sz.hp.nx s.hp.nx) x y s.hp.tr) = _
    rw [mergeT_get, if_neg]
    intro h
    rcases List.mem_append.1 h with h | h
    · exact (hT b h).1 hb
    · exact hn (idsTo_range 16 _ _ _ hnx h)
  · have henv := hg.back hst.env
    refine ⟨henv.size, fun t v h1 h2 => henv.slot t v h1 ?_, henv.len, henv.near⟩
    have h2 : Q.get (pathOf t) (dropS W s.tm) = some v := h2
    rw [dropS_get] at h2
    split at h2
    · cases h2
    · rename_i hn; rw [hW _ hn]; exact h2
  · rcases get b o hb with ⟨h5, h6⟩ | h6
    · have hl0 := old b o l h6 hl
      exact ObjOk.mono hs.ext (far b o l h5 h6 hl0) (m.obj b o l h6 hl0)
    · exact hst.mem.obj b o l h6 hl
  · rcases get b o hb with ⟨h5, h6⟩ | h6 <;> rcases get b' o' hb' with ⟨h7, h8⟩ | h8
    · exact m.apart b b' o o' l l' h6 h8 (old b o l h6 hl) (old b' o' l' h8 hl') hne
    · exact .inl (mixed b o l b' o' l' h5 h6 (old b o l h6 hl) h8 hl')
    · exact .inl (fun e => mixed b' o' l' b o l h7 h8 (old b' o' l' h8 hl') h6 hl e.symm)
    · exact hst.mem.apart b b' o o' l l' h6 h8 hl hl' hne
  · rcases get b o hb with ⟨h5, h6⟩ | h6
    · have := m.wf b o h6
      exact Nat.lt_of_lt_of_le this hnx
    · exact hst.mem.wf b o h6
  · have := hst.df
    rw [hdf] at this
    exact this
end
end Go.AX
/- The abstract executor: a coin: the region that draws it, and the law. -/
namespace Go.AX
section
variable {P : Program} {X : Ext} {call : CallH}
theorem touch_ok {ρ : Rho} {E : CE} {s : St} {a : Act} {w : World} {p q es fo : Nat} {T : List Id} (st : StOk P ρ E s a w) (hp : E.mask.testBit p = true) (h : touchT (pathOf p) (pathOf q) es fo s = .ok T) : ∀ b ∈ T, ρ b ≠ none ∧ ∀ o, Q.get b s.hp.tr = some o → o.ro = false := by
  obtain ⟨va, h1, h⟩ := bind_eq.1 h
  obtain ⟨b, off, n, c, rfl, h⟩ := onSlc_eq.1 h
  obtain ⟨vi, _, h⟩ := bind_eq.1 h
  obtain ⟨j, i, rfl, h⟩ := onInt_eq.1 h
  obtain ⟨k, rfl, h⟩ := onNat_eq.1 h
  obtain ⟨o, h2, h⟩ := bind_eq.1 h
  obtain ⟨v, h3, h⟩ := bind_eq.1 h
  obtain ⟨x, _, hx⟩ := st.env.slot p _ hp (Q.at_eq.1 h1)
  obtain ⟨lc, cap, hl, _, _⟩ := den_slc_eq hx
  obtain ⟨y, _, hy, _⟩ := load1_mem st.mem hl (bind_eq.2 ⟨o, h2, h3⟩)
  have h2' := AX.Q.at_eq.1 h2
  have one : o.ro = false → ρ b ≠ none ∧ ∀ o, Q.get b s.hp.tr = some o → o.ro = false := fun hr => ⟨by rw [hl]; simp, fun o1 h1 => by rw [h2'] at h1; cases h1; exact hr⟩
  have two : ∀ b', (∃ l', ρ b' = some l') → ∀ {W : List Id}, ((s.hp.obj b').bind fun o' => tst 375 (band (bnot o.ro) (bnot o'.ro)) (.ok [b, b'])) = .ok W → ∀ b ∈ W, ρ b ≠ none ∧ ∀ o, Q.get b s.hp.tr = some o → o.ro = false := by
    rintro b' ⟨l', hl'⟩ W hW
    obtain ⟨o', g1, hW⟩ := bind_eq.1 hW
    obtain ⟨g2, hW⟩ := tst_eq.1 hW
    cases hW
    simp only [band_eq, bnot_eq, Bool.and_eq_true, Bool.not_eq_true'] at g2
    have g1 := AX.Q.at_eq.1 g1
    intro z hz
    rcases List.mem_cons.1 hz with rfl | hz
    · exact one g2.1
    · rcases List.mem_cons.1 hz with rfl | hz
      · exact ⟨by rw [hl']; simp, fun o1 h1 => by rw [g1] at h1; cases h1; exact g2.2⟩
      · cases hz
  split at h
  · obtain ⟨lc', cap', hl', _, _⟩ := den_slc_eq hy
    exact two _ ⟨_, hl'⟩ h
  · simp only [den, Option.map_eq_some_iff] at hy
    obtain ⟨lc', hl', _⟩ := hy
    exact two _ ⟨_, hl'⟩ h
  · obtain ⟨g2, h⟩ := tst_eq.1 h
    cases h
    rw [bnot_eq, Bool.not_eq_true'] at g2
    intro z hz
    rw [List.mem_singleton.1 hz]
    exact one g2
  · cases h

structure CoinIs (P : Program) (ops : Array Oper) (d t : Tmp) (e e1 e2 e3 : TypeId) (z : Bool) (o0 o1 o2 o3 : Oper) : Prop where
  list : ops.toList = [o0, o1, o2, o3]
  k0 : o0.op = .alloc e
  d0 : o0.dst = some d
  k1 : o1.op = .store e1 (.tmp d) (.const (.bool true))
  d1 : o1.dst = none
  k2 : o2.op = .store e2 (.tmp d) (.const (.bool false))
  d2 : o2.dst = none
  k3 : o3.op = .load e3 (.tmp d)
  d3 : o3.dst = some t
  g : ∀ (i : Nat) (o : Oper), ops[i]? = some o → o.guard = none
  zero : ∃ i, P.info? e = some i ∧ i.zero = some (.bool z)
  s1 : szOf P e1 = .ok 1
  s2 : szOf P e2 = .ok 1
  s3 : aggOf P e3 = .ok false
  b1 : ∃ x ∈ o1.after.toList, Region.binds .any x = true ∧ x.on = 0
  b2 : ∃ x ∈ o2.after.toList, Region.binds .any x = true ∧ x.on = 0
  b3 : ∀ j, j < 3 → ∃ x ∈ o3.after.toList, Region.binds .any x = true ∧ x.on = j
  lt : ∀ (i : Nat) (o : Oper) (e : Edge), ops[i]? = some o → e ∈ o.after.toList → Region.binds .any e = true → e.on < i
  ne : d ≠ t
theorem edgeOn_eq {o : Oper} {n : Nat} (h : edgeOn o n = true) : ∃ x ∈ o.after.toList, Region.binds .any x = true ∧ x.on = n := by
  unfold edgeOn at h
  obtain ⟨x, h1, h2⟩ := List.any_eq_true.1 h
  simp only [band_eq, Bool.and_eq_true, natBeq_eq] at h2
  exact ⟨x, h1, h2⟩
theorem coinOk_eq {E : CE} {ops : Array Oper} {t : Tmp} (h : coinOk E ops t = true) : ∃ d e e1 e2 e3 z o0 o1 o2 o3, CoinIs E.P ops d t e e1 e2 e3 z o0 o1 o2 o3 ∧ d < E.nt ∧ t < E.nt ∧ E.mask.testBit d = false ∧ E.mask.testBit t = false ∧ d ∉ E.ns ∧ t ∉ E.ns := by
  unfold coinOk at h
  generalize hl : ops.toList = l at h
  split at h
  · rename_i o0 o1 o2 o3
    split at h
    · rename_i e d e1 x1 e2 x2 e3 x3 k0 d0 k1 k2 k3
      simp only [band_eq, bnot_eq, Bool.and_eq_true, natBeq_eq, natBlt_eq, Bool.not_eq_true', Option.isNone_iff_eq_none] at h
      obtain ⟨h1, ⟨h2, h3, h4⟩, ⟨h5, h6, h7⟩, h8, h9, ⟨h10, h11, h12, h13, h14⟩, h15, ⟨h16, h17, h18⟩, ⟨h19, h20⟩, h21, h22⟩ := h
      subst h2; subst h3; subst h4
      rw [← hl] at h8 h15
      have hz : ∃ z, ∃ i, E.P.info? e = some i ∧ i.zero = some (.bool z) := by
        split at h1
        · rename_i i hi
          split at h1
          · rename_i z hz; exact ⟨z, i, hi, hz⟩
          · cases h1
        · cases h1
      obtain ⟨z, hz⟩ := hz
      have hd3 : o3.dst = some t := by
        split at h7
        · rename_i u hu; rw [natBeq_eq] at h7; rw [hu, h7]
        · cases h7
      have hs : szOf E.P e1 = .ok 1 ∧ szOf E.P e2 = .ok 1 ∧ aggOf E.P e3 = .ok false := by
        split at h9
        · rename_i q1 q2 q3; exact ⟨q1, q2, q3⟩
        · cases h9
      have ne : x3 ≠ t := fun e => by subst e; simp at h16
      have hn : ∀ x : Nat, E.ns.contains x = false → x ∉ E.ns := fun x hx hm => by
        have : E.ns.contains x = true := List.contains_iff_mem.2 hm
        rw [this] at hx; cases hx
      refine ⟨x3, e, e1, e2, e3, z, o0, o1, o2, o3, ⟨hl, k0, d0, k1, h5, k2, h6, k3, hd3, fun i o hi => ?_, hz, hs.1, hs.2.1, hs.2.2, edgeOn_eq h10, edgeOn_eq h11, fun j hj => ?_, fun i o ed hi he hb => ?_, ne⟩, h17, h18, h19, h20, hn _ h21, hn _ h22⟩
      · have := List.all_eq_true.1 h8 o (by rw [Array.mem_toList_iff]; exact Array.mem_of_getElem? hi)
        simpa using this
      · rcases (by omega : j = 0 ∨ j = 1 ∨ j = 2) with rfl | rfl | rfl
        · exact edgeOn_eq h12
        · exact edgeOn_eq h13
        · exact edgeOn_eq h14
      · have := List.all_eq_true.1 h15 (o, i) (by rw [List.mem_zipIdx_iff_getElem?]; simpa using hi)
        have := List.all_eq_true.1 this ed he
        rw [hb] at this
        simpa using this
    · cases h
  · cases h
def coinW (w : World) (e : TypeId) (b : Bool) : World := w.alloc (.cells #[.bool b] e (0, 0))
theorem coinW_at (w : World) (e : TypeId) (b : Bool) : (coinW w e b).heap[w.heap.size]? = some (.cells #[.bool b] e (0, 0)) := alloc_new _ _
theorem coin_store {w : World} {e e1 : TypeId} {b c : Bool} (h1 : szOf P e1 = .ok 1) : (Instr.storeAt e1 (.pointer (some ⟨w.heap.size, 0, none⟩)) (.bool c)).run P (coinW w e b) = .ok () (coinW w e c) := by
  have h2 := store_run (P := P) (v := .bool c) (o := 0) (coinW_at w e b) (by simp) (by omega) rfl
  have h3 : (coinW w e b).setCell ⟨w.heap.size, 0, none⟩ (.bool c) = coinW w e c := by
    rw [setCell_set (coinW_at w e b)]
    unfold coinW World.alloc
    congr 1
    apply Array.ext_getElem?
    intro i
    rw [Array.getElem?_setIfInBounds]
    by_cases hi : w.heap.size = i
    · subst hi; simp
    · rw [if_neg hi, Array.getElem?_push, Array.getElem?_push, if_neg (fun e => hi e.symm), if_neg (fun e => hi e.symm)]
  simp [Instr.storeAt, Instr.sureAddr, storeVar, run_sizeOf' h1, Value.cells, storeCells, addr_add, h2, h3]
theorem coin_load {w : World} {e e3 : TypeId} {b : Bool} (h : aggOf P e3 = .ok false) : (Instr.loadAt e3 (.pointer (some ⟨w.heap.size, 0, none⟩))).run P (coinW w e b) = .ok (.bool b) (coinW w e b) := by
  have : (coinW w e b).cell? ⟨w.heap.size, 0, none⟩ = some (.bool b) := by rw [cell_of_block (coinW_at w e b)]; rfl
  simp [Instr.loadAt, Instr.sureAddr, loadVar, run_isAgg' h, run_load, this]
theorem coin_any {ops : Array Oper} {d t : Tmp} {e e1 e2 e3 : TypeId} {z : Bool} {o0 o1 o2 o3 : Oper} (C : CoinIs P ops d t e e1 e2 e3 z o0 o1 o2 o3) {a : Act} {w : World} (hd : d < a.tmps.size) {Qx : Exit → Act → World → Prop}
    (hq : ∀ b c, Qx .normal ((a.put (some d) (.pointer (some ⟨w.heap.size, 0, none⟩))).put (some t) (.bool c)) (coinW w e b)) : wpAny P .any ops Qx ops.size (Array.replicate ops.size false) a w := by
  have hsz : ops.size = 4 := by rw [← Array.length_toList, C.list]; rfl
  have at_ : ∀ i o, ops[i]? = some o → (i = 0 ∧ o = o0) ∨ (i = 1 ∧ o = o1) ∨ (i = 2 ∧ o = o2) ∨ (i = 3 ∧ o = o3) := by
    intro i o hi
    have hlt := (Array.getElem?_eq_some_iff.1 hi).1
    rw [← Array.getElem?_toList, C.list] at hi
    rcases (by omega : i = 0 ∨ i = 1 ∨ i = 2 ∨ i = 3) with rfl | rfl | rfl | rfl
    · exact .inl ⟨rfl, by simpa using hi.symm⟩
    · exact .inr (.inl ⟨rfl, by simpa using hi.symm⟩)
    · exact .inr (.inr (.inl ⟨rfl, by simpa using hi.symm⟩))
    · exact .inr (.inr (.inr ⟨rfl, by simpa using hi.symm⟩))
  have ord := ordOk_of C.lt
  let ptr : Value := .pointer (some ⟨w.heap.size, 0, none⟩)
  have ptrd : ∀ c : Option Value, (match c with | none => a.put (some d) ptr | some v => (a.put (some d) ptr).put (some t) v).eval (.tmp d) = ptr := by
    intro c
    have h0 : (a.put (some d) ptr).eval (.tmp d) = ptr := by
      show (a.tmps.setIfInBounds d ptr).getD d undef = ptr
      rw [Array.getD_eq_getD_getElem?, Array.getElem?_setIfInBounds, if_pos rfl, if_pos hd]; rfl
    cases c with
    | none => exact h0
    | some v => exact (put_eval (fun e => C.ne e.symm)).trans h0
  have key : ∀ (fuel : Nat) (listed : Array Bool) (a' : Act) (w' : World), listed.size = ops.size → listed.toList.countP (· == false) ≤ fuel →
      ((¬ Lst listed 0 ∧ ¬ Lst listed 3 ∧ a' = a ∧ w' = w) ∨ (Lst listed 0 ∧ ¬ Lst listed 3 ∧ a' = a.put (some d) ptr ∧ ∃ b, w' = coinW w e b) ∨ (Lst listed 0 ∧ Lst listed 3 ∧ ∃ b c, a' = (a.put (some d) ptr).put (some t) (.bool c) ∧ w' = coinW w e b)) → wpAny P .any ops Qx fuel listed a' w' := by
    intro fuel
    induction fuel with
    | zero =>
      intro listed a' w' hs hn hI
      have hall : ∀ i, i < ops.size → Lst listed i := by
        intro i hi
        apply Classical.byContradiction
        intro hc
        have hlt : i < listed.size := by omega
        have hf : listed[i] = false := by
          cases hq : listed[i] with
          | false => rfl
          | true => exact absurd (by unfold Lst; rw [Array.getElem?_eq_getElem hlt, hq]) hc
        have : 0 < listed.toList.countP (· == false) := List.countP_pos_iff.2 ⟨listed[i], by simp, by simp [hf]⟩
        omega
      rcases hI with ⟨h, _⟩ | ⟨_, h, _⟩ | ⟨_, _, b, c, rfl, rfl⟩
      · exact absurd (hall 0 (by omega)) h
      · exact absurd (hall 3 (by omega)) h
      · refine ⟨?_, hq b c⟩
        rw [List.eq_nil_iff_forall_not_mem]
        intro i hi
        obtain ⟨o, h1, h2, _⟩ := (ready_iff hs).1 hi
        exact h2 (hall i (Array.getElem?_eq_some_iff.1 h1).1)
    | succ fuel ih =>
      intro listed a' w' hs hn hI
      refine ⟨fun hr => ?_, fun i hi => ?_⟩
      · have hall := ready_nil ord hs hr
        rcases hI with ⟨h, _⟩ | ⟨_, h, _⟩ | ⟨_, _, b, c, rfl, rfl⟩
        · exact absurd (hall 0 (by omega)) h
        · exact absurd (hall 3 (by omega)) h
        · exact hq b c
      · obtain ⟨o, h1, h2, h3⟩ := (ready_iff hs).1 hi
        have hilt : i < listed.size := by rw [hs]; exact (Array.getElem?_eq_some_iff.1 h1).1
        have hs' : (listed.setIfInBounds i true).size = ops.size := by rw [Array.size_setIfInBounds]; exact hs
        have hn' : (listed.setIfInBounds i true).toList.countP (· == false) ≤ fuel := by
          have hf : listed[i] = false := by
            cases hq : listed[i] with
            | false => rfl
            | true => exact absurd (by unfold Lst; rw [Array.getElem?_eq_getElem hilt, hq]) h2
          have hpos : 0 < listed.toList.countP (· == false) := List.countP_pos_iff.2 ⟨listed[i], by simp, by simp [hf]⟩
          rw [Array.toList_setIfInBounds, List.countP_set (by simpa using hilt)]
          have h1 : (listed.toList[i]'(by simpa using hilt) == false) = true := by simp [hf]
          rw [if_pos h1, if_neg (by simp)]
          omega
        refine (wpOp_go h1 (C.g i o h1)).2 (.inl ?_)
        show o.upon P a' _ Qx ((execOp a'.eval o).run P w')
        rcases at_ i o h1 with ⟨rfl, rfl⟩ | ⟨rfl, rfl⟩ | ⟨rfl, rfl⟩ | ⟨rfl, rfl⟩
        · rcases hI with ⟨_, h5, rfl, rfl⟩ | ⟨h, _⟩ | ⟨h, _⟩
          · have hr : (execOp a'.eval o).run P w' = .ok (.value ptr) (coinW w' e z) := by
              obtain ⟨dst, op, ty, pos, after, guard⟩ := o
              have k0 := C.k0
              simp only at k0
              subst k0
              obtain ⟨inf, i1, i2⟩ := C.zero
              have hz : (zeroValue e).run P w' = .ok (.bool z) w' := zero_of_info i1 i2 w'
              simp only [execOp]
              refine exec_v ?_
              simp [Instr.alloc, newVar, newRow, hz, Value.cells]
              exact ⟨rfl, rfl⟩
            rw [hr]
            show wpAny P .any ops Qx fuel _ (a'.put o.dst ptr) _
            rw [C.d0]
            exact ih _ _ _ hs' hn' (.inr (.inl ⟨(lst_set hilt _).2 (.inr rfl), fun h => h5 (((lst_set hilt _).1 h).resolve_right (by decide)), rfl, z, rfl⟩))
          · exact absurd h h2
          · exact absurd h h2
        · obtain ⟨x, g1, g2, g3⟩ := C.b1
          have h0 : Lst listed 0 := by have := h3 x g1 g2; rw [g3] at this; exact this
          have go : ∀ b, w' = coinW w e b → a'.eval (.tmp d) = ptr → (execOp a'.eval o).run P w' = .ok .skip (coinW w e true) := by
            intro b hb hp
            rw [exec_store C.k1, hp, hb]
            show ((Instr.storeAt e1 ptr (.bool true)).run P _).andThen _ = _
            rw [coin_store C.s1]; rfl
          rcases hI with ⟨h, _⟩ | ⟨h4, h5, rfl, b, hb⟩ | ⟨h4, h5, b, c, rfl, hb⟩
          · exact absurd h0 h
          · rw [go b hb (ptrd none)]
            show wpAny P .any ops Qx fuel _ (_root_.Go.Act.put _ o.dst undef) _
            rw [C.d1, put_none]
            exact ih _ _ _ hs' hn' (.inr (.inl ⟨(lst_set hilt _).2 (.inl h4), fun h => h5 (((lst_set hilt _).1 h).resolve_right (by decide)), rfl, true, rfl⟩))
          · rw [go b hb (ptrd (some (.bool c)))]
            show wpAny P .any ops Qx fuel _ (_root_.Go.Act.put _ o.dst undef) _
            rw [C.d1, put_none]
            exact ih _ _ _ hs' hn' (.inr (.inr ⟨(lst_set hilt _).2 (.inl h4), (lst_set hilt _).2 (.inl h5), true, c, rfl, rfl⟩))
        · obtain ⟨x, g1, g2, g3⟩ := C.b2
          have h0 : Lst listed 0 := by have := h3 x g1 g2; rw [g3] at this; exact this
          have go : ∀ b, w' = coinW w e b → a'.eval (.tmp d) = ptr → (execOp a'.eval o).run P w' = .ok .skip (coinW w e false) := by
            intro b hb hp
            rw [exec_store C.k2, hp, hb]
            show ((Instr.storeAt e2 ptr (.bool false)).run P _).andThen _ = _
            rw [coin_store C.s2]; rfl
          rcases hI with ⟨h, _⟩ | ⟨h4, h5, rfl, b, hb⟩ | ⟨h4, h5, b, c, rfl, hb⟩
          · exact absurd h0 h
          · rw [go b hb (ptrd none)]
            show wpAny P .any ops Qx fuel _ (_root_.Go.Act.put _ o.dst undef) _
            rw [C.d2, put_none]
            exact ih _ _ _ hs' hn' (.inr (.inl ⟨(lst_set hilt _).2 (.inl h4), fun h => h5 (((lst_set hilt _).1 h).resolve_right (by decide)), rfl, false, rfl⟩))
          · rw [go b hb (ptrd (some (.bool c)))]
            show wpAny P .any ops Qx fuel _ (_root_.Go.Act.put _ o.dst undef) _
            rw [C.d2, put_none]
            exact ih _ _ _ hs' hn' (.inr (.inr ⟨(lst_set hilt _).2 (.inl h4), (lst_set hilt _).2 (.inl h5), false, c, rfl, rfl⟩))
        · obtain ⟨x, g1, g2, g3⟩ := C.b3 0 (by omega)
          have h0 : Lst listed 0 := by have := h3 x g1 g2; rw [g3] at this; exact this
          rcases hI with ⟨h, _⟩ | ⟨h4, h5, rfl, b, hb⟩ | ⟨h4, h5, _⟩
          · exact absurd h0 h
          · have hr : (execOp (a.put (some d) ptr).eval o).run P w' = .ok (.value (.bool b)) w' := by
              obtain ⟨dst, op, ty, pos, after, guard⟩ := o
              have k3 := C.k3
              simp only at k3
              subst k3
              simp only [execOp]
              refine exec_v ?_
              rw [ptrd none, hb]
              exact coin_load C.s3
            rw [hr]
            show wpAny P .any ops Qx fuel _ ((a.put (some d) ptr).put o.dst (.bool b)) _
            rw [C.d3]
            exact ih _ _ _ hs' hn' (.inr (.inr ⟨(lst_set hilt _).2 (.inl h4), (lst_set hilt _).2 (.inr rfl), b, b, rfl, hb⟩))
          · exact absurd h5 h2
  have hno : ∀ j, ¬ Lst (Array.replicate ops.size false) j := by
    intro j hj
    unfold Lst at hj
    rw [Array.getElem?_replicate] at hj
    split at hj <;> cases hj
  exact key ops.size _ a w (by simp) (by rw [Array.toList_replicate, List.countP_replicate]; simp) (.inl ⟨hno 0, hno 3, rfl, rfl⟩)
theorem coin_ok : CoinOk P call := by
  intro id ops t x y E E' ac hco hb hP hx hy ρ s a w Qx st hp
  obtain ⟨d, e, e1, e2, e3, z, o0, o1, o2, o3, C, hdn, htn, hdm, htm, hdns, htns⟩ := coinOk_eq hco
  rw [hP] at C
  obtain ⟨p, W, W', hmix, hm1, hm2, hW, hW', rfl, rfl⟩ := both_eq hb
  rw [hP] at hmix
  rw [runA_both] at hp
  rcases both_form (W ++ W') (pathOf p.1) (pathOf p.2.1) p.2.2.1 p.2.2.2 (runA call (CE.code x E').1) (runA call (CE.code y E').1) s with ⟨T, sx, sy, h1, h2, h3, h4, h5⟩ | ⟨l, h5⟩
  rotate_left
  · rw [h5] at hp; exact hp.elim
  rw [h5] at hp
  obtain ⟨hfree, hpost⟩ := hp
  have hT := touch_ok st hm1 h1
  refine wp_seq (wp_region_any hmix (coin_any C (by rw [st.env.size]; exact hdn) fun b c => ?_))
  let w0 : World := { w with drawn := w.drawn + 1 }
  have hgrow : ∀ cb, cb < w.heap.size → (coinW w0 e b).heap[cb]? = w.heap[cb]? := by
    intro cb hcb
    show (w.heap.push _)[cb]? = _
    rw [Array.getElem?_push, if_neg (by omega)]
  have hsz : w.heap.size ≤ (coinW w0 e b).heap.size := by
    show w.heap.size ≤ (w.heap.push _).size
    simp
  have other : ∀ u, u ≠ d → u ≠ t → ((a.put (some d) (.pointer (some ⟨w0.heap.size, 0, none⟩))).put (some t) (.bool c)).tmps[u]? = a.tmps[u]? := by
    intro u h1 h2
    show ((a.tmps.setIfInBounds d _).setIfInBounds t _)[u]? = _
    rw [Array.getElem?_setIfInBounds, if_neg (fun e => h2 e.symm), Array.getElem?_setIfInBounds, if_neg (fun e => h1 e.symm)]
  have st0 : StOk P ρ E' ⟨s.l, s.tm, ⟨restrict T s.hp.tr, s.hp.nx⟩, s.df⟩ ((a.put (some d) (.pointer (some ⟨w0.heap.size, 0, none⟩))).put (some t) (.bool c)) (coinW w0 e b) := by
    refine ⟨⟨?_, fun u v g1 g2 => ?_, st.env.len, fun k u v g1 g2 => ?_⟩, (st.mem.ext hgrow).sub (fun b o hb => ?_) (fun b o hb => ?_), st.df⟩
    · show ((a.tmps.setIfInBounds d _).setIfInBounds t _).size = _
      rw [Array.size_setIfInBounds, Array.size_setIfInBounds]; exact st.env.size
    · rw [other u (fun e => by subst e; rw [hdm] at g1; cases g1) (fun e => by subst e; rw [htm] at g1; cases g1)]
      exact st.env.slot u v g1 g2
    · have hmem : u ∈ E'.ns := List.mem_of_getElem? g1
      rw [other u (fun e => hdns (e ▸ hmem)) (fun e => htns (e ▸ hmem))]
      exact st.env.near k u v g1 g2
    · have hb : Q.get b (restrict T s.hp.tr) = some o := hb
      rw [restrict_get] at hb
      split at hb
      · exact hb
      · cases hb
    · have hb : Q.get b (restrict T s.hp.tr) = some o := hb
      rw [restrict_get] at hb
      split at hb
      · exact st.mem.wf b o hb
      · cases hb
  have hct : ((a.put (some d) (.pointer (some ⟨w0.heap.size, 0, none⟩))).put (some t) (.bool c)).eval (.tmp t) = .bool c := by
    show ((a.tmps.setIfInBounds d _).setIfInBounds t _).getD t undef = _
    rw [Array.getD_eq_getD_getElem?, Array.getElem?_setIfInBounds, if_pos rfl, if_pos (by rw [Array.size_setIfInBounds, st.env.size]; exact htn)]; rfl
  show (Code.cond (.tmp t) x y).wp P Qx _ _
  refine wp_cond hct ?_
  have way : ∀ (c : Code) (sz : St) (V : List Id), runA call (CE.code c E').1 ⟨s.l, s.tm, ⟨restrict T s.hp.tr, s.hp.nx⟩, s.df⟩ = .norm sz → codeW (CE.code c E').1 = .ok V → (∀ q, q ∉ W ++ W' → q ∉ V) → sz.hp.nx = sx.hp.nx → (∀ b o, meetAt sx.hp.tr sy.hp.tr b = some o → Q.get b sz.hp.tr = some o) →
      Post P E' (CE.code c E').2 ρ ⟨s.l, s.tm, ⟨restrict T s.hp.tr, s.hp.nx⟩, s.df⟩ (coinW w0 e b) Qx (runA call (CE.code c E').1 ⟨s.l, s.tm, ⟨restrict T s.hp.tr, s.hp.nx⟩, s.df⟩) := by
    intro c sz V hr hV hsub hnx hmeet
    rw [hr]
    obtain ⟨k1, k2⟩ := codeW_keep _ hV hr
    refine ⟨fun b b1 b2 => hfree b b1 (by rw [hnx] at b2; exact b2), fun ρ' a' w' hs hst hg => ?_⟩
    obtain ⟨r1, r2⟩ := both_one (W := W ++ W') st.mem hgrow hsz rfl rfl rfl hT hs hst hg k1 (fun q hq => k2 q (hsub q hq)) hmeet
    rw [hnx] at r1 r2
    exact hpost ρ' a' w' r1 r2 (Grows.refl _ _)
  cases c with
  | true => exact hx ρ _ _ _ Qx st0 (way x sx W h2 hW (fun q hq h => hq (List.mem_append_left _ h)) rfl fun b o h => (meetAt_eq h).1)
  | false => exact hy ρ _ _ _ Qx st0 (way y sy W' h3 hW' (fun q hq h => hq (List.mem_append_right _ h)) h4.symm fun b o h => (meetAt_eq h).2)
end
end Go.AX
