/- The abstract executor: its operations on values are the model's. -/
import Derived.Test.YtgmndgnhejdnaaaGreatDoorAxA
import Derived.Laws.StructEq
import Derived.LaidEql
namespace Go.AX

def OpdOk (ρ : Rho) (E : CE) (l : List AV) (tm : Q AV) (ev : Operand → Value) (x : Operand) : Prop := ∀ f v, E.opd x = .ok f → f l tm = .ok v → den ρ v = some (ev x)
def OpdsOk (ρ : Rho) (E : CE) (l : List AV) (tm : Q AV) (ev : Operand → Value) (o : Oper) : Prop := ∀ x, x ∈ o.op.operands.toList → OpdOk ρ E l tm ev x
def Good (P : Program) (ρ : Rho) (h : AH) (w : World) (v : AV) (h' : AH) (e : Ending) (w' : World) : Prop := ∃ ρ' x, e = .returned x ∧ Step ρ h w ρ' h' w' ∧ Mem P ρ' h' w' ∧ den ρ' v = some x
structure CallOk (P : Program) (X : Ext) (call : CallH) : Prop where
  now : ∀ f args h v h', call f args h = .ok (v, h') → ∀ ρ w xs, Mem P ρ h w → Free ρ h h' → denL ρ args = some xs → ∀ (o : Oper) (a : Act) (next : Act → World → Prop) (Q : Exit → Act → World → Prop),
    (∀ ρ' w' x, Step ρ h w ρ' h' w' → Mem P ρ' h' w' → den ρ' v = some x → next (a.put o.dst x) w') → o.upon P a next Q ((callFunc f xs.toArray).run P w)
  mono : ∀ f args h v h', call f args h = .ok (v, h') → num h.nx ≤ num h'.nx

def PurOk (P : Program) (o : Oper) (E : CE) (f : Opd) : Prop := ∀ ρ l tm ev w v, OpdsOk ρ E l tm ev o → f l tm = .ok v → ∃ x, den ρ v = some x ∧ (execOp ev o).run P w = .ok (.value x) w
def RdOk (P : Program) (o : Oper) (E : CE) (f : List AV → Q AV → AH → R AV) : Prop := ∀ ρ l tm h ev w v, Mem P ρ h w → OpdsOk ρ E l tm ev o → f l tm h = .ok v → ∃ x, den ρ v = some x ∧ (execOp ev o).run P w = .ok (.value x) w
def AlcOk (P : Program) (o : Oper) (E : CE) (f : List AV → Q AV → Id → R (AV × AO)) : Prop := ∀ ρ l tm b ev w v ob, OpdsOk ρ E l tm ev o → ρ b = none → f l tm b = .ok (v, ob) →
  ∃ x O cap, (execOp ev o).run P w = .ok (.value x) (w.alloc O) ∧ ob.ro = false ∧ den (ρ.upd b ⟨w.heap.size, 0, cap⟩) v = some x ∧ ObjOk (ρ.upd b ⟨w.heap.size, 0, cap⟩) ⟨w.heap.size, 0, cap⟩ (w.alloc O) ob
def MemOk (P : Program) (X : Ext) (o : Oper) (E : CE) (f : CallH → List AV → Q AV → AH → R (AV × AH)) : Prop := ∀ call, CallOk P X call → ∀ ρ l tm h w a v h', Mem P ρ h w → Free ρ h h' → OpdsOk ρ E l tm a.eval o →
  f call l tm h = .ok (v, h') → ∀ (next : Act → World → Prop) (Q : Exit → Act → World → Prop),
    (∀ ρ' w' x, Step ρ h w ρ' h' w' → Mem P ρ' h' w' → den ρ' v = some x → next (a.put o.dst x) w') → o.wp P a w next Q
def KOk (P : Program) (X : Ext) (o : Oper) (E : CE) (k : OpK) : Prop := match k with
  | .pur f => PurOk P o E f
  | .rd f => RdOk P o E f
  | .alc f => AlcOk P o E f
  | .mem f => MemOk P X o E f

theorem dec_le (a b : Int) : decide (a ≤ b) = !decide (b < a) := by rw [Bool.eq_iff_iff]; simp
section
variable {P : Program} {X : Ext} {o : Oper} {E : CE} {k : OpK}
theorem ok_inj {α : Type} {a b : α} (h : R.ok a = R.ok b) : a = b := by cases h; rfl
theorem pur1_ok {f : AV → R AV} {x : Operand} (hk : E.pur1 f x = .ok k) (hx : x ∈ o.op.operands.toList)
    (hv : ∀ ρ v u (ev : Operand → Value) w, f v = .ok u → den ρ v = some (ev x) → ∃ r, den ρ u = some r ∧ (execOp ev o).run P w = .ok (.value r) w) : KOk P X o E k := by
  obtain ⟨g, hg, h2⟩ := bind_eq.1 hk
  cases h2
  intro ρ l tm ev w v ho h
  obtain ⟨u, hu, h3⟩ := bind_eq.1 h
  exact hv ρ u v ev w h3 (ho x hx g u hg hu)
theorem pur2_ok {f : AV → AV → R AV} {x y : Operand} (hk : E.pur2 f x y = .ok k) (hx : x ∈ o.op.operands.toList) (hy : y ∈ o.op.operands.toList)
    (hv : ∀ ρ v v' u (ev : Operand → Value) w, f v v' = .ok u → den ρ v = some (ev x) → den ρ v' = some (ev y) → ∃ r, den ρ u = some r ∧ (execOp ev o).run P w = .ok (.value r) w) : KOk P X o E k := by
  obtain ⟨g, hg, h2⟩ := bind_eq.1 hk
  obtain ⟨g', hg', h2⟩ := bind_eq.1 h2
  cases h2
  intro ρ l tm ev w v ho h
  obtain ⟨u, hu, h3⟩ := bind_eq.1 h
  obtain ⟨u', hu', h3⟩ := bind_eq.1 h3
  exact hv ρ u u' v ev w h3 (ho x hx g u hg hu) (ho y hy g' u' hg' hu')
theorem rd1_ok {f : AH → AV → R AV} {x : Operand} (hk : E.rd1 f x = .ok k) (hx : x ∈ o.op.operands.toList)
    (hv : ∀ ρ h v u (ev : Operand → Value) w, Mem P ρ h w → f h v = .ok u → den ρ v = some (ev x) → ∃ r, den ρ u = some r ∧ (execOp ev o).run P w = .ok (.value r) w) : KOk P X o E k := by
  obtain ⟨g, hg, h2⟩ := bind_eq.1 hk
  cases h2
  intro ρ l tm h ev w v hm ho hh
  obtain ⟨u, hu, h3⟩ := bind_eq.1 hh
  exact hv ρ h u v ev w hm h3 (ho x hx g u hg hu)
theorem rd2_ok {f : AH → AV → AV → R AV} {x y : Operand} (hk : E.rd2 f x y = .ok k) (hx : x ∈ o.op.operands.toList) (hy : y ∈ o.op.operands.toList)
    (hv : ∀ ρ h v v' u (ev : Operand → Value) w, Mem P ρ h w → f h v v' = .ok u → den ρ v = some (ev x) → den ρ v' = some (ev y) → ∃ r, den ρ u = some r ∧ (execOp ev o).run P w = .ok (.value r) w) : KOk P X o E k := by
  obtain ⟨g, hg, h2⟩ := bind_eq.1 hk
  obtain ⟨g', hg', h2⟩ := bind_eq.1 h2
  cases h2
  intro ρ l tm h ev w v hm ho hh
  obtain ⟨u, hu, h3⟩ := bind_eq.1 hh
  obtain ⟨u', hu', h3⟩ := bind_eq.1 h3
  exact hv ρ h u u' v ev w hm h3 (ho x hx g u hg hu) (ho y hy g' u' hg' hu')
theorem opdL_ok {ρ : Rho} {l : List AV} {tm : Q AV} {ev : Operand → Value} : ∀ {xs : List Operand} {fs : List Opd} {vs : List AV}, E.opdL xs = .ok fs → evalL fs l tm = .ok vs → (∀ x, x ∈ xs → OpdOk ρ E l tm ev x) → denL ρ vs = some (xs.map ev)
  | [], fs, vs, h1, h2, _ => by cases h1; cases h2; rfl
  | x :: xs, fs, vs, h1, h2, h => by
    obtain ⟨f, fs', hf, hfs, rfl⟩ := mapR_cons_eq.1 h1
    obtain ⟨v, vs', hv, hvs, rfl⟩ := mapR_cons_eq.1 h2
    exact denL_cons_eq.2 ⟨ev x, xs.map ev, h x (by simp) f v hf hv, opdL_ok hfs hvs fun y hy => h y (by simp [hy]), rfl⟩

theorem exec_v {s : Sem Value} {w w' : World} {x : Value} (h : s.run P w = .ok x w') : ((do pure (.value (← s)) : Sem Next)).run P w = .ok (.value x) w' := by simp [h]
theorem intV_ok {ρ : Rho} {f : IntKind → Int → Int → R AV} {v v' u : AV} {x y : Value} (h : intV f v v' = .ok u) (hx : den ρ v = some x) (hy : den ρ v' = some y) :
    ∃ k a b, x = .int k a ∧ y = .int k b ∧ f k a b = .ok u := by
  obtain ⟨k, a, rfl, h1⟩ := onInt_eq.1 h
  obtain ⟨k', b, rfl, h2⟩ := onInt_eq.1 h1
  obtain ⟨h3, h4⟩ := tst_eq.1 h2
  obtain rfl := kindEq_eq h3
  simp only [den, Option.some.injEq] at hx hy
  exact ⟨k, a, b, hx.symm, hy.symm, h4⟩
theorem shiftV_ok {ρ : Rho} {f : IntKind → Int → Int → R AV} {v v' u : AV} {x y : Value} (h : shiftV f v v' = .ok u) (hx : den ρ v = some x) (hy : den ρ v' = some y) :
    ∃ k j a b, x = .int k a ∧ y = .int j b ∧ f k a b = .ok u := by
  obtain ⟨k, a, rfl, h1⟩ := onInt_eq.1 h
  obtain ⟨k', b, rfl, h2⟩ := onInt_eq.1 h1
  simp only [den, Option.some.injEq] at hx hy
  exact ⟨k, k', a, b, hx.symm, hy.symm, h2⟩
theorem strV_ok {ρ : Rho} {f : Nat → Nat → Nat → Nat → R AV} {v v' u : AV} {x y : Value} (h : strV f v v' = .ok u) (hx : den ρ v = some x) (hy : den ρ v' = some y) :
    ∃ l a m b, x = .string (bytesOf l a) ∧ y = .string (bytesOf m b) ∧ f l a m b = .ok u := by
  obtain ⟨k, a, rfl, h1⟩ := onStr_eq.1 h
  obtain ⟨k', b, rfl, h2⟩ := onStr_eq.1 h1
  simp only [den, Option.some.injEq] at hx hy
  exact ⟨k, a, k', b, hx.symm, hy.symm, h2⟩
theorem exec_bin {op : BinOp} {t : TypeId} {x y : Operand} {yt : TypeId} {dst : Option Tmp} {ty : TypeId} {pos : String} {after : Array Edge} {g : Option (Nat × Bool)} {ev : Operand → Value} {w : World} {r : Value}
    (hg : eqGuard op t x y (ev x) (ev y) = pure ()) (h : (binOp op t (ev x) (ev y)).run P w = .ok r w) : (execOp ev ⟨dst, .binOp op t x y yt, ty, pos, after, g⟩).run P w = .ok (.value r) w := by
  simp only [execOp, hg]
  exact exec_v (by simp [h])

variable {op : BinOp} {t : TypeId} {x y : Operand} {yt : TypeId} {dst : Option Tmp} {ty : TypeId} {pos : String} {after : Array Edge} {g : Option (Nat × Bool)}
theorem binInt_ok (hk : E.binInt op x y = .ok k) : KOk P X ⟨dst, .binOp op t x y yt, ty, pos, after, g⟩ E k := by
  have hx : x ∈ (Op.binOp op t x y yt).operands.toList := by simp [Op.operands]
  have hy : y ∈ (Op.binOp op t x y yt).operands.toList := by simp [Op.operands]
  have go : ∀ (f : IntKind → Int → Int → R AV), E.pur2 (intV f) x y = .ok k → (∀ k a b u w, f k a b = .ok u → ∃ r, (∀ ρ, den ρ u = some r) ∧ (binOp op t (.int k a) (.int k b)).run P w = .ok r w) → KOk P X ⟨dst, .binOp op t x y yt, ty, pos, after, g⟩ E k := by
    intro f hk hf
    refine pur2_ok hk hx hy fun ρ v v' u ev w h1 h2 h3 => ?_
    obtain ⟨j, a, b, ha, hb, hu⟩ := intV_ok h1 h2 h3
    obtain ⟨r, hr1, hr2⟩ := hf j a b u w hu
    exact ⟨r, hr1 ρ, exec_bin (by rw [ha]; exact eqGuard_at_int ..) (by rw [ha, hb]; exact hr2)⟩
  have gos : ∀ (f : IntKind → Int → Int → R AV), E.pur2 (shiftV f) x y = .ok k → (∀ k j a b u w, f k a b = .ok u → ∃ r, (∀ ρ, den ρ u = some r) ∧ (binOp op t (.int k a) (.int j b)).run P w = .ok r w) → KOk P X ⟨dst, .binOp op t x y yt, ty, pos, after, g⟩ E k := by
    intro f hk hf
    refine pur2_ok hk hx hy fun ρ v v' u ev w h1 h2 h3 => ?_
    obtain ⟨j, j', a, b, ha, hb, hu⟩ := shiftV_ok h1 h2 h3
    obtain ⟨r, hr1, hr2⟩ := hf j j' a b u w hu
    exact ⟨r, hr1 ρ, exec_bin (by rw [ha]; exact eqGuard_at_int ..) (by rw [ha, hb]; exact hr2)⟩
  cases op with
  | add =>
    exact go _ hk fun k a b u w h => by
      cases h
      exact ⟨_, fun ρ => den_int _ _ _, by simp [binOp_add, Op.intArith, wrapK_eq, intAdd_eq]⟩
  | sub =>
    exact go _ hk fun k a b u w h => by
      cases h
      exact ⟨_, fun ρ => den_int _ _ _, by simp [binOp_sub, Op.intArith, wrapK_eq, intSub_eq]⟩
  | mul =>
    exact go _ hk fun k a b u w h => by
      cases h
      exact ⟨_, fun ρ => den_int _ _ _, by simp [binOp_mul, Op.intArith, wrapK_eq]⟩
  | quo =>
    exact go _ hk fun k a b u w h => by
      obtain ⟨h0, h⟩ := tst_eq.1 h
      rw [bnot_eq, intEq_eq, Bool.not_eq_true', beq_eq_false_iff_ne] at h0
      cases h
      exact ⟨_, fun ρ => den_int _ _ _, by simp [binOp_quo, Op.intDiv, h0, wrapK_eq]⟩
  | rem =>
    exact go _ hk fun k a b u w h => by
      obtain ⟨h0, h⟩ := tst_eq.1 h
      rw [bnot_eq, intEq_eq, Bool.not_eq_true', beq_eq_false_iff_ne] at h0
      cases h
      exact ⟨_, fun ρ => den_int _ _ _, by simp [binOp_rem, Op.intDiv, h0]⟩
  | and =>
    exact go _ hk fun k a b u w h => by
      cases h
      exact ⟨_, fun ρ => den_int _ _ _, by simp [binOp_and, intBits_and]⟩
  | or =>
    exact go _ hk fun k a b u w h => by
      cases h
      exact ⟨_, fun ρ => den_int _ _ _, by simp [binOp_or, intBits_or]⟩
  | xor =>
    exact go _ hk fun k a b u w h => by
      cases h
      exact ⟨_, fun ρ => den_int _ _ _, by simp [binOp_xor, intBits_xor]⟩
  | andNot =>
    exact go _ hk fun k a b u w h => by
      cases h
      exact ⟨_, fun ρ => den_int _ _ _, by rw [binOp_andNot]; rfl⟩
  | shl =>
    exact gos _ hk fun k j a b u w h => by
      obtain ⟨h0, h⟩ := tst_eq.1 h
      rw [bnot_eq, intLt_eq, Bool.not_eq_true', decide_eq_false_iff_not] at h0
      cases h
      exact ⟨_, fun ρ => den_int _ _ _, by simp [binOp_shl, Op.shift, h0, wrapK_eq]⟩
  | shr =>
    exact gos _ hk fun k j a b u w h => by
      obtain ⟨h0, h⟩ := tst_eq.1 h
      rw [bnot_eq, intLt_eq, Bool.not_eq_true', decide_eq_false_iff_not] at h0
      cases h
      exact ⟨_, fun ρ => den_int _ _ _, by simp [binOp_shr, Op.shift, h0]⟩
  | eql =>
    exact go _ hk fun k a b u w h => by
      cases h
      exact ⟨_, fun ρ => den_bool _ _, by simp [binOp_eql, intEq_eq]⟩
  | neq =>
    exact go _ hk fun k a b u w h => by
      cases h
      exact ⟨_, fun ρ => den_bool _ _, by simp [binOp_neq, intEq_eq, bne]⟩
  | lss =>
    exact go _ hk fun k a b u w h => by
      cases h
      exact ⟨_, fun ρ => den_bool _ _, by simp [binOp_lss, intLt_eq]⟩
  | leq =>
    exact go _ hk fun k a b u w h => by
      cases h
      exact ⟨_, fun ρ => den_bool _ _, by simp [binOp_leq, intLt_eq, dec_le]⟩
  | gtr =>
    exact go _ hk fun k a b u w h => by
      cases h
      exact ⟨_, fun ρ => den_bool _ _, by simp [binOp_gtr, intLt_eq]⟩
  | geq =>
    exact go _ hk fun k a b u w h => by
      cases h
      exact ⟨_, fun ρ => den_bool _ _, by simp [binOp_geq, intLt_eq, dec_le]⟩
theorem binStr_ok (hk : E.binStr op x y = .ok k) : KOk P X ⟨dst, .binOp op t x y yt, ty, pos, after, g⟩ E k := by
  have hx : x ∈ (Op.binOp op t x y yt).operands.toList := by simp [Op.operands]
  have hy : y ∈ (Op.binOp op t x y yt).operands.toList := by simp [Op.operands]
  have go : ∀ (f : Nat → Nat → Nat → Nat → R AV), E.pur2 (strV f) x y = .ok k → (∀ l a m b u w, f l a m b = .ok u → ∃ r, (∀ ρ, den ρ u = some r) ∧ (Op.stringOp op (bytesOf l a) (bytesOf m b)).run P w = .ok r w) → KOk P X ⟨dst, .binOp op t x y yt, ty, pos, after, g⟩ E k := by
    intro f hk hf
    refine pur2_ok hk hx hy fun ρ v v' u ev w h1 h2 h3 => ?_
    obtain ⟨l, a, m, b, ha, hb, hu⟩ := strV_ok h1 h2 h3
    obtain ⟨r, hr1, hr2⟩ := hf l a m b u w hu
    exact ⟨r, hr1 ρ, exec_bin (by rw [ha]; exact eqGuard_at_string ..) (by
      rw [ha, hb]
      have : binOp op t (.string (bytesOf l a)) (.string (bytesOf m b)) = Op.stringOp op (bytesOf l a) (bytesOf m b) := by cases op <;> rfl
      rw [this]; exact hr2)⟩
  cases op with
  | add =>
    exact go _ hk fun l a m b u w h => by
      obtain ⟨h0, h⟩ := tst_eq.1 h
      rw [natBle_eq] at h0
      cases h
      refine ⟨_, fun ρ => den_str _ _ _, ?_⟩
      have e : ¬ (((bytesOf l a).size + (bytesOf m b).size : Nat) : Int) > IntKind.i64.max := by rw [bytesOf_size, bytesOf_size, IntKind.max_i64]; omega
      simp only [Op.stringOp]
      rw [if_neg e, bytesOf_cat]; rfl
  | eql =>
    refine pur2_ok hk hx hy fun ρ v v' u ev w h1 h2 h3 => ?_
    unfold eqStrV at h1
    split at h1
    · rename_i lb
      obtain ⟨l, a, rfl, h4⟩ := onStr_eq.1 h1
      obtain ⟨h5, h6⟩ := tst_eq.1 h4
      rw [bnot_eq, Bool.not_eq_true', ← Bool.not_eq_true, natBeq_eq, len_eq] at h5
      cases h6
      obtain ⟨s, _, ha, hs⟩ := den_strL_eq h2
      rw [den_str] at h3
      have hb := Option.some.inj h3
      refine ⟨_, den_bool _ _, exec_bin (by rw [ha]; exact eqGuard_at_string ..) ?_⟩
      rw [ha, ← hb]
      show (Op.stringOp .eql ⟨s.toArray⟩ (bytesOf l a)).run P w = _
      have e : ((⟨s.toArray⟩ : ByteArray).toList == (bytesOf l a).toList) = false := by
        rw [bytesOf_toList, ByteArray.toList_mk]
        rw [beq_eq_false_iff_ne]
        intro e
        have := congrArg List.length e
        rw [bytesL_length, hs] at this
        exact h5 this
      simp only [Op.stringOp, e]
      rfl
    · obtain ⟨l, a, m, b, ha, hb, hu⟩ := strV_ok h1 h2 h3
      cases hu
      exact ⟨_, den_bool _ _, exec_bin (by rw [ha]; exact eqGuard_at_string ..) (by
        rw [ha, hb]
        show (Op.stringOp .eql (bytesOf l a) (bytesOf m b)).run P w = _
        simp [Op.stringOp, bytesOf_toList, strEq_eq])⟩
  | neq =>
    refine pur2_ok hk hx hy fun ρ v v' u ev w h1 h2 h3 => ?_
    unfold neStrV at h1
    split at h1
    · rename_i lb
      obtain ⟨l, a, rfl, h4⟩ := onStr_eq.1 h1
      obtain ⟨h5, h6⟩ := tst_eq.1 h4
      rw [bnot_eq, Bool.not_eq_true', ← Bool.not_eq_true, natBeq_eq, len_eq] at h5
      cases h6
      obtain ⟨s, _, ha, hs⟩ := den_strL_eq h2
      rw [den_str] at h3
      have hb := Option.some.inj h3
      refine ⟨_, den_bool _ _, exec_bin (by rw [ha]; exact eqGuard_at_string ..) ?_⟩
      rw [ha, ← hb]
      show (Op.stringOp .neq ⟨s.toArray⟩ (bytesOf l a)).run P w = _
      have e : ((⟨s.toArray⟩ : ByteArray).toList == (bytesOf l a).toList) = false := by
        rw [bytesOf_toList, ByteArray.toList_mk]
        rw [beq_eq_false_iff_ne]
        intro e
        have := congrArg List.length e
        rw [bytesL_length, hs] at this
        exact h5 this
      simp only [Op.stringOp, e]
      rfl
    · obtain ⟨l, a, m, b, ha, hb, hu⟩ := strV_ok h1 h2 h3
      cases hu
      exact ⟨_, den_bool _ _, exec_bin (by rw [ha]; exact eqGuard_at_string ..) (by
        rw [ha, hb]
        show (Op.stringOp .neq (bytesOf l a) (bytesOf m b)).run P w = _
        simp [Op.stringOp, bytesOf_toList, strEq_eq])⟩
  | lss =>
    exact go _ hk fun l a m b u w h => by
      cases h
      exact ⟨_, fun ρ => den_bool _ _, by simp [Op.stringOp, bytesOf_toList, strLt_eq]⟩
  | leq =>
    exact go _ hk fun l a m b u w h => by
      cases h
      exact ⟨_, fun ρ => den_bool _ _, by simp [Op.stringOp, bytesOf_toList, strLt_eq, strEq_eq]⟩
  | gtr =>
    exact go _ hk fun l a m b u w h => by
      cases h
      exact ⟨_, fun ρ => den_bool _ _, by simp [Op.stringOp, bytesOf_toList, strLt_eq, strEq_eq]⟩
  | geq =>
    exact go _ hk fun l a m b u w h => by
      cases h
      exact ⟨_, fun ρ => den_bool _ _, by simp [Op.stringOp, bytesOf_toList, strLt_eq]⟩
  | _ => cases hk
end
end Go.AX
/- The abstract executor: its other operations on values are the model's. -/
namespace Go.AX
section
variable {P : Program} {X : Ext} {E : CE} {k : OpK} {x y : Operand} {dst : Option Tmp} {ty : TypeId} {pos : String} {after : Array Edge} {g : Option (Nat × Bool)} {t : TypeId}

theorem szOf_eq {n : Nat} (h : szOf P t = .ok n) : ∃ i, P.info? t = some i ∧ i.size = n := by
  obtain ⟨i, h1, h2⟩ := bind_eq.1 h
  exact ⟨i, ofOpt_eq.1 h1, ok_inj h2⟩
theorem undOf_eq {d : TypeDesc} (h : undOf P t = .ok d) : P.underlying t = some d := ofOpt_eq.1 h
theorem run_sizeOf' {n : Nat} (h : szOf P t = .ok n) (w : World) : (sizeOf t).run P w = .ok n w := by
  obtain ⟨i, h1, h2⟩ := szOf_eq h
  simp [sizeOf, typeInfo, h1, h2]
theorem run_typeInfo' {i : TypeInfo} (h : P.info? t = some i) (w : World) : (typeInfo t).run P w = .ok i w := by simp [typeInfo, h]
theorem run_isAgg' {b : Bool} (h : aggOf P t = .ok b) (w : World) : (isAgg t).run P w = .ok b w := by
  obtain ⟨d, h1, h2⟩ := bind_eq.1 h
  have h1 := undOf_eq h1
  simp only [isAgg, Sem.run_bind, run_underlying h1, Result.andThen_ok]
  cases d <;> (have := ok_inj h2; subst this; rfl)

theorem utf8_valid_small (m : Nat) (h : m < 128) : Utf8.valid (Int.ofNat m) = true := by
  unfold Utf8.valid
  rw [Bool.or_eq_true]
  left
  simp only [Int.ofNat_eq_natCast, Bool.and_eq_true, decide_eq_true_eq]
  omega
theorem utf8_encode_small (m : Nat) (h : m < 128) : Utf8.encode (Int.ofNat m) = bytesOf 1 m := by
  have hv := utf8_valid_small m h
  unfold Utf8.encode
  rw [if_pos hv]
  dsimp only
  rw [if_pos (show (Int.ofNat m).toNat < 0x80 from h)]
  simp [bytesOf, bytesL]
theorem not_ok (hk : E.pur1 notV x = .ok k) : KOk P X ⟨dst, .unOp .not t x, ty, pos, after, g⟩ E k :=
  pur1_ok hk (by simp [Op.operands]) fun ρ v u ev w h1 h2 => by
    obtain ⟨b, rfl, h⟩ := onBool_eq.1 h1
    have := ok_inj h; subst this
    rw [den_bool] at h2
    refine ⟨_, den_bool _ _, ?_⟩
    simp only [execOp, ← Option.some.inj h2]
    exact exec_v (by simp [Op.unary])
theorem neg_ok (hk : E.pur1 negV x = .ok k) : KOk P X ⟨dst, .unOp .neg t x, ty, pos, after, g⟩ E k :=
  pur1_ok hk (by simp [Op.operands]) fun ρ v u ev w h1 h2 => by
    obtain ⟨j, n, rfl, h⟩ := onInt_eq.1 h1
    have := ok_inj h; subst this
    rw [den_int] at h2
    refine ⟨_, den_int _ _ _, ?_⟩
    simp only [execOp, ← Option.some.inj h2]
    exact exec_v (by simp [Op.unary, Op.intArith, wrapK_eq, intSub_eq])
theorem move_ok {f : Opd} (hf : E.opd x = .ok f) : KOk P X ⟨dst, .move x, ty, pos, after, g⟩ E (.pur f) :=
  fun ρ l tm ev w v ho h => ⟨_, ho x (by simp [Op.operands]) f v hf h, rfl⟩
theorem assign_ok {f : Opd} (hf : E.opd x = .ok f) : KOk P X ⟨dst, .assign x, ty, pos, after, g⟩ E (.pur f) :=
  fun ρ l tm ev w v ho h => ⟨_, ho x (by simp [Op.operands]) f v hf h, rfl⟩
theorem pick_ok {c : Operand} {fc fx fy : Opd} (hc : E.opd c = .ok fc) (hx : E.opd x = .ok fx) (hy : E.opd y = .ok fy) : KOk P X ⟨dst, .pick c x y, ty, pos, after, g⟩ E (.pur (pickF fc fx fy)) := by
  intro ρ l tm ev w v ho h
  obtain ⟨u, hu, h⟩ := bind_eq.1 h
  obtain ⟨b, rfl, h2⟩ := onBool_eq.1 h
  have h3 := ho c (by simp [Op.operands]) fc _ hc hu
  rw [den_bool] at h3
  have h4 := Option.some.inj h3
  cases b with
  | true => exact ⟨_, ho x (by simp [Op.operands]) fx v hx h2, by simp [execOp, ← h4, asBool]⟩
  | false => exact ⟨_, ho y (by simp [Op.operands]) fy v hy h2, by simp [execOp, ← h4, asBool]⟩
theorem toInt_ok {s d : TypeId} {sd : TypeDesc} {j : IntKind} (hs : P.underlying s = some sd) (hd : P.underlying d = some (.int j)) (hk : E.pur1 (toIntV j) x = .ok k) : KOk P X ⟨dst, .convert s d x, ty, pos, after, g⟩ E k :=
  pur1_ok hk (by simp [Op.operands]) fun ρ v u ev w h1 h2 => by
    obtain ⟨i, n, rfl, h⟩ := onInt_eq.1 h1
    have := ok_inj h; subst this
    rw [den_int] at h2
    refine ⟨_, den_int _ _ _, ?_⟩
    simp only [execOp, ← Option.some.inj h2]
    exact exec_v (by simp [convert, run_underlying hs, run_underlying hd, Conv.intToInt, wrapK_eq])
theorem rune_ok {s d : TypeId} {j : IntKind} (hs : P.underlying s = some (.int j)) (hd : P.underlying d = some .string) (hk : E.pur1 runeV x = .ok k) : KOk P X ⟨dst, .convert s d x, ty, pos, after, g⟩ E k :=
  pur1_ok hk (by simp [Op.operands]) fun ρ v u ev w h1 h2 => by
    obtain ⟨i, n, rfl, h⟩ := onInt_eq.1 h1
    obtain ⟨m, rfl, h⟩ := onNat_eq.1 h
    obtain ⟨hlt, h⟩ := tst_eq.1 h
    rw [natBlt_eq] at hlt
    have := ok_inj h; subst this
    rw [den_int] at h2
    refine ⟨_, den_str _ _ _, ?_⟩
    simp only [execOp, ← Option.some.inj h2]
    refine exec_v ?_
    simp only [convert, Sem.run_bind, run_underlying hs, run_underlying hd, Result.andThen_ok, Conv.intToString, Sem.run_pure, utf8_encode_small m hlt]
theorem strMove_ok {s d : TypeId} (hs : P.underlying s = some .string) (hd : P.underlying d = some .string) (hk : E.pur1 strIdV x = .ok k) : KOk P X ⟨dst, .convert s d x, ty, pos, after, g⟩ E k :=
  pur1_ok hk (by simp [Op.operands]) fun ρ v u ev w h1 h2 => by
    obtain ⟨l, n, rfl, h⟩ := onStr_eq.1 h1
    have := ok_inj h; subst this
    rw [den_str] at h2
    refine ⟨_, den_str _ _ _, ?_⟩
    simp only [execOp, ← Option.some.inj h2]
    exact exec_v (by simp [convert, run_underlying hs, run_underlying hd])
theorem iface_ok {d : TypeDesc} (hd : P.underlying t = some d) (hn : ∀ ms, d ≠ .interface ms) (hk : E.pur1 (ifaceV t) x = .ok k) : KOk P X ⟨dst, .makeInterface t x, ty, pos, after, g⟩ E k :=
  pur1_ok hk (by simp [Op.operands]) fun ρ v u ev w h1 h2 => by
    have := ok_inj h1; subst this
    refine ⟨.iface t (ev x), by simp only [den, h2, Option.map_some], ?_⟩
    simp only [execOp]
    refine exec_v ?_
    simp only [Instr.makeInterface, Sem.run_bind, run_underlying hd, Result.andThen_ok]
    cases d <;> first | rfl | exact absurd rfl (hn _)
theorem fieldAddr_ok {i : Nat} {fs : Array Field} {f : Field} {n : Nat} (hd : P.underlying t = some (.struct fs)) (hf : fs[i]? = some f) (hn : szOf P f.type = .ok n) (h0 : n ≠ 0) (hk : E.pur1 (fieldAddrV f.offset) x = .ok k) :
    KOk P X ⟨dst, .fieldAddr t x i, ty, pos, after, g⟩ E k :=
  pur1_ok hk (by simp [Op.operands]) fun ρ v u ev w h1 h2 => by
    obtain ⟨b, o, rfl, h⟩ := onPtr_eq.1 h1
    have := ok_inj h; subst this
    obtain ⟨l, hl, hx⟩ := den_ptr_eq ρ h2
    refine ⟨_, den_ptr ρ hl _, ?_⟩
    simp only [execOp, hx]
    refine exec_v ?_
    simp only [Instr.fieldAt, Sem.run_bind, run_underlying hd, Result.andThen_ok, hf, Instr.sureAddr, Sem.run_pure, fieldPlace, run_sizeOf' hn, if_neg h0, addr_add]
    rw [Nat.add_assoc]
theorem part_agg {n off : Nat} {ft : TypeId} (ha : aggOf P ft = .ok true) (hn : szOf P ft = .ok n) (cs : Array Value) (w : World) : (part ft cs off).run P w = .ok (.agg (cs.extract off (off + n))) w := by
  simp [part, run_isAgg' ha, run_sizeOf' hn]
theorem part_one {off : Nat} {ft : TypeId} (ha : aggOf P ft = .ok false) (cs : Array Value) (v : Value) (hv : cs[off]? = some v) (w : World) : (part ft cs off).run P w = .ok v w := by
  simp [part, run_isAgg' ha, hv]
theorem all_get {l : List AV} (h : l.all oneV = true) {i : Nat} {v : AV} (hv : l[i]? = some v) : oneV v = true := List.all_eq_true.1 h v (List.mem_of_getElem? hv)
theorem den_agg_eq {ρ : Rho} {l : List AV} {x : Value} (h : den ρ (.agg l) = some x) : l.all oneV = true ∧ ∃ ys, denL ρ l = some ys ∧ x = .agg ys.toArray := by
  simp only [den] at h
  split at h
  · rename_i h0
    simp only [Option.map_eq_some_iff] at h
    obtain ⟨y, hy, rfl⟩ := h
    exact ⟨h0, y, hy, rfl⟩
  · cases h
theorem den_agg {ρ : Rho} {l : List AV} {ys : List Value} (h0 : l.all oneV = true) (h : denL ρ l = some ys) : den ρ (.agg l) = some (.agg ys.toArray) := by
  simp only [den, h0, if_true, h, Option.map_some]
theorem den_tuple_eq {ρ : Rho} {l : List AV} {x : Value} (h : den ρ (.tuple l) = some x) : ∃ ys, denL ρ l = some ys ∧ x = .tuple ys.toArray := by
  simp only [den, Option.map_eq_some_iff] at h
  obtain ⟨y, hy, rfl⟩ := h
  exact ⟨y, hy, rfl⟩
theorem den_tuple {ρ : Rho} {l : List AV} {ys : List Value} (h : denL ρ l = some ys) : den ρ (.tuple l) = some (.tuple ys.toArray) := by
  simp only [den, h, Option.map_some]
theorem denL_drop {ρ : Rho} : ∀ {l : List AV} {ys : List Value} (n : Nat), denL ρ l = some ys → denL ρ (l.drop n) = some (ys.drop n)
  | l, ys, 0, h => h
  | [], ys, n + 1, h => by simp [denL] at h; subst h; rfl
  | v :: r, ys, n + 1, h => by
    obtain ⟨z, zs, h1, h2, rfl⟩ := denL_cons_eq.1 h
    exact denL_drop n h2
theorem denL_take {ρ : Rho} : ∀ {l : List AV} {ys : List Value} (n : Nat), denL ρ l = some ys → denL ρ (l.take n) = some (ys.take n)
  | l, ys, 0, h => by simp [denL]
  | [], ys, n + 1, h => by simp [denL] at h; subst h; rfl
  | v :: r, ys, n + 1, h => by
    obtain ⟨z, zs, h1, h2, rfl⟩ := denL_cons_eq.1 h
    exact denL_cons_eq.2 ⟨z, zs.take n, h1, denL_take n h2, rfl⟩
theorem field_ok {i : Nat} {fs : Array Field} {f : Field} {n : Nat} (hd : P.underlying t = some (.struct fs)) (hf : fs[i]? = some f) (ha : aggOf P f.type = .ok true) (hn : szOf P f.type = .ok n) (hk : E.pur1 (fieldV f.offset n) x = .ok k) :
    KOk P X ⟨dst, .field t x i, ty, pos, after, g⟩ E k :=
  pur1_ok hk (by simp [Op.operands]) fun ρ v u ev w h1 h2 => by
    obtain ⟨l, rfl, h⟩ := onAgg_eq.1 h1
    obtain ⟨h0, h⟩ := tst_eq.1 h
    have := ok_inj h; subst this
    obtain ⟨h3, ys, h4, hx⟩ := den_agg_eq h2
    refine ⟨.agg ((ys.drop f.offset).take n).toArray, den_agg ?_ ?_, ?_⟩
    · simp only [takeN_eq, dropN_eq]
      exact List.all_eq_true.2 fun z hz => List.all_eq_true.1 h3 z (List.mem_of_mem_drop (List.mem_of_mem_take hz))
    · simp only [takeN_eq, dropN_eq]; exact denL_take n (denL_drop _ h4)
    · simp only [execOp, hx]
      refine exec_v ?_
      simp only [Instr.field, Sem.run_bind, run_underlying hd, Result.andThen_ok, hf, asAgg, Sem.run_pure]
      rw [part_agg ha hn]
      congr 2
      apply Array.toList_inj.1
      simp
theorem field1_ok {i : Nat} {fs : Array Field} {f : Field} (hd : P.underlying t = some (.struct fs)) (hf : fs[i]? = some f) (ha : aggOf P f.type = .ok false) (hk : E.pur1 (field1V f.offset) x = .ok k) :
    KOk P X ⟨dst, .field t x i, ty, pos, after, g⟩ E k :=
  pur1_ok hk (by simp [Op.operands]) fun ρ v u ev w h1 h2 => by
    obtain ⟨l, rfl, h⟩ := onAgg_eq.1 h1
    have h := ofOpt_eq.1 h
    rw [nth_eq] at h
    obtain ⟨h3, ys, h4, hx⟩ := den_agg_eq h2
    obtain ⟨z, hz, hd'⟩ := denL_get h4 _ _ h
    refine ⟨z, hd', ?_⟩
    simp only [execOp, hx]
    refine exec_v ?_
    simp only [Instr.field, Sem.run_bind, run_underlying hd, Result.andThen_ok, hf, asAgg, Sem.run_pure]
    exact part_one ha _ _ (by simpa using hz) w
theorem indexAddrS_ok {e : TypeId} {n : Nat} (hd : P.underlying t = some (.slice e)) (hn : szOf P e = .ok n) (hk : E.pur2 (indexAddrSV n) x y = .ok k) : KOk P X ⟨dst, .indexAddr t x y, ty, pos, after, g⟩ E k :=
  pur2_ok hk (by simp [Op.operands]) (by simp [Op.operands]) fun ρ v v' u ev w h1 h2 h3 => by
    obtain ⟨b, o, m, c, rfl, h⟩ := onSlc_eq.1 h1
    obtain ⟨j, i, rfl, h4⟩ := onInt_eq.1 h
    obtain ⟨i, rfl, h5⟩ := onNat_eq.1 h4
    obtain ⟨h6, h7⟩ := tst_eq.1 h5
    rw [natBlt_eq] at h6
    have := ok_inj h7; subst this
    obtain ⟨l, cap, hl, hx, _⟩ := den_slc_eq h2
    rw [den_int] at h3
    refine ⟨_, den_ptr ρ hl _, ?_⟩
    simp only [execOp, hx, ← Option.some.inj h3]
    refine exec_v ?_
    have e1 : (0 : Int) ≤ (i : Int) ∧ (i : Int) < (m : Int) := by omega
    simp only [Instr.indexAt, asIntOf, Sem.run_bind, Sem.run_pure, Result.andThen_ok, run_underlying hd, if_pos e1, run_sizeOf' hn, addr_add, Int.ofNat_eq_natCast, Int.toNat_natCast]
    rw [Nat.add_assoc]
theorem indexAddrA_ok {e : TypeId} {n m : Nat} (hd : P.underlying t = some (.array m e)) (hn : szOf P e = .ok n) (hk : E.pur2 (indexAddrAV n m) x y = .ok k) : KOk P X ⟨dst, .indexAddr t x y, ty, pos, after, g⟩ E k :=
  pur2_ok hk (by simp [Op.operands]) (by simp [Op.operands]) fun ρ v v' u ev w h1 h2 h3 => by
    obtain ⟨b, o, rfl, h⟩ := onPtr_eq.1 h1
    obtain ⟨j, i, rfl, h4⟩ := onInt_eq.1 h
    obtain ⟨i, rfl, h5⟩ := onNat_eq.1 h4
    obtain ⟨h6, h7⟩ := tst_eq.1 h5
    rw [natBlt_eq] at h6
    have := ok_inj h7; subst this
    obtain ⟨l, hl, hx⟩ := den_ptr_eq ρ h2
    rw [den_int] at h3
    refine ⟨_, den_ptr ρ hl _, ?_⟩
    simp only [execOp, hx, ← Option.some.inj h3]
    refine exec_v ?_
    have e1 : (0 : Int) ≤ (i : Int) ∧ (i : Int) < (m : Int) := by omega
    simp only [Instr.indexAt, asIntOf, Sem.run_bind, Sem.run_pure, Result.andThen_ok, run_underlying hd, Instr.sureAddr, if_pos e1, run_sizeOf' hn, addr_add, Int.ofNat_eq_natCast, Int.toNat_natCast]
    rw [Nat.add_assoc]
theorem indexStr_ok (hd : P.underlying t = some .string) (hk : E.pur2 indexStrV x y = .ok k) : KOk P X ⟨dst, .index t x y, ty, pos, after, g⟩ E k :=
  pur2_ok hk (by simp [Op.operands]) (by simp [Op.operands]) fun ρ v v' u ev w h1 h2 h3 => by
    obtain ⟨l, s, rfl, h⟩ := onStr_eq.1 h1
    obtain ⟨j, i, rfl, h4⟩ := onInt_eq.1 h
    obtain ⟨i, rfl, h5⟩ := onNat_eq.1 h4
    obtain ⟨h6, h7⟩ := tst_eq.1 h5
    rw [natBlt_eq] at h6
    have := ok_inj h7; subst this
    rw [den_str] at h2
    rw [den_int] at h3
    refine ⟨_, den_int ρ _ _, ?_⟩
    simp only [execOp, ← Option.some.inj h2, ← Option.some.inj h3]
    refine exec_v ?_
    have e1 : (0 : Int) ≤ (i : Int) := by omega
    simp only [Instr.index, asIntOf, Sem.run_bind, Sem.run_pure, Result.andThen_ok, run_underlying hd, if_pos e1, Int.ofNat_eq_natCast, Int.toNat_natCast, bytesOf_get l s i h6]
    simp [strAt]
theorem extract_ok {i : Nat} (hk : E.pur1 (extractV i) x = .ok k) : KOk P X ⟨dst, .extract x i, ty, pos, after, g⟩ E k :=
  pur1_ok hk (by simp [Op.operands]) fun ρ v u ev w h1 h2 => by
    obtain ⟨l, rfl, h⟩ := onTuple_eq.1 h1
    have h := ofOpt_eq.1 h
    rw [nth_eq] at h
    obtain ⟨ys, h4, hx⟩ := den_tuple_eq h2
    obtain ⟨z, hz, hd'⟩ := denL_get h4 _ _ h
    refine ⟨z, hd', ?_⟩
    simp only [execOp, hx]
    refine exec_v ?_
    simp [Instr.extract, hz]
theorem nilCheck_ok (hk : E.pur1 nilCheckV x = .ok k) : KOk P X ⟨dst, .nilCheck x, ty, pos, after, g⟩ E k :=
  pur1_ok hk (by simp [Op.operands]) fun ρ v u ev w h1 h2 => by
    obtain ⟨b, o, rfl, h⟩ := onPtr_eq.1 h1
    have := ok_inj h; subst this
    obtain ⟨l, hl, hx⟩ := den_ptr_eq ρ h2
    exact ⟨_, den_ptr ρ hl _, by simp [execOp, hx]⟩
theorem min_ok {ts : Array TypeId} (hk : E.pur2 minV x y = .ok k) : KOk P X ⟨dst, .call ⟨.builtin .min, #[x, y], ts⟩, ty, pos, after, g⟩ E k :=
  pur2_ok hk (by simp [Op.operands, Call.operands]) (by simp [Op.operands, Call.operands]) fun ρ v v' u ev w h1 h2 h3 => by
    obtain ⟨i, a, rfl, h⟩ := onInt_eq.1 h1
    obtain ⟨j, b, rfl, h4⟩ := onInt_eq.1 h
    have := ok_inj h4; subst this
    rw [den_int] at h2 h3
    refine ⟨_, den_int ρ _ _, ?_⟩
    simp only [execOp, resolve, List.map_toArray, List.map_cons, List.map_nil, ← Option.some.inj h2, ← Option.some.inj h3]
    simp [invoke, builtin, Builtin.min_, Builtin.min2, intLt_eq]
theorem max_ok {ts : Array TypeId} (hk : E.pur2 maxV x y = .ok k) : KOk P X ⟨dst, .call ⟨.builtin .max, #[x, y], ts⟩, ty, pos, after, g⟩ E k :=
  pur2_ok hk (by simp [Op.operands, Call.operands]) (by simp [Op.operands, Call.operands]) fun ρ v v' u ev w h1 h2 h3 => by
    obtain ⟨i, a, rfl, h⟩ := onInt_eq.1 h1
    obtain ⟨j, b, rfl, h4⟩ := onInt_eq.1 h
    have := ok_inj h4; subst this
    rw [den_int] at h2 h3
    refine ⟨_, den_int ρ _ _, ?_⟩
    simp only [execOp, resolve, List.map_toArray, List.map_cons, List.map_nil, ← Option.some.inj h2, ← Option.some.inj h3]
    simp [invoke, builtin, Builtin.max_, Builtin.max2, intLt_eq]
end
end Go.AX
/- The abstract executor: slices, literals, function values, assertions: they are the model's. -/
namespace Go.AX
section
variable {P : Program} {X : Ext} {E : CE} {k : OpK} {x y : Operand} {dst : Option Tmp} {ty : TypeId} {pos : String} {after : Array Edge} {g : Option (Nat × Bool)} {t : TypeId}

def OptIs (o : Option Value) (n : Option Nat) : Prop := match n with
  | none => o = none
  | some n => ∃ j, o = some (.int j (Int.ofNat n))
theorem natOf_eq {v : AV} {n : Nat} (h : natOf v = .ok n) : ∃ j, v = .int j (Int.ofNat n) := by
  obtain ⟨j, i, rfl, h⟩ := onInt_eq.1 h
  obtain ⟨m, rfl, h⟩ := onNat_eq.1 h
  cases h; exact ⟨j, rfl⟩
theorem opdO_ok {ρ : Rho} {l : List AV} {tm : Q AV} {ev : Operand → Value} {z : Option Operand} {f : Option Opd} {n : Option Nat} (h1 : E.opdO z = .ok f) (h2 : evalO f l tm = .ok n)
    (h : ∀ x, z = some x → OpdOk ρ E l tm ev x) : OptIs (z.map ev) n := by
  cases z with
  | none => cases h1; cases h2; rfl
  | some x =>
    obtain ⟨g, hg, h1⟩ := bind_eq.1 h1
    cases h1
    obtain ⟨v, hv, h2⟩ := bind_eq.1 h2
    obtain ⟨m, hm, h2⟩ := bind_eq.1 h2
    cases h2
    obtain ⟨j, rfl⟩ := natOf_eq hm
    have := h x rfl g _ hg hv
    rw [den_int] at this
    exact ⟨j, by simp [← Option.some.inj this]⟩
theorem sliceBound_run {n y : Nat} {c : BoundsCode} {j : IntKind} (h : n ≤ y) (w : World) : (Instr.sliceBound (.int j (n : Int)) y c).run P w = .ok n w := by
  have e : (0 : Int) ≤ (n : Int) ∧ (n : Int) ≤ (y : Int) := by omega
  simp [Instr.sliceBound, asIntOf, e]
theorem sliceBounds_run {isS : Bool} {len cap : Nat} {lo hi mx : Option Value} {a b c : Option Nat} (ha : OptIs lo a) (hb : OptIs hi b) (hc : OptIs mx c) (hm : c.isSome = true → b.isSome = true)
    (h1 : c.getD cap ≤ cap) (h2 : b.getD len ≤ c.getD cap) (h3 : a.getD 0 ≤ b.getD len) (w : World) : (Instr.sliceBounds isS len cap lo hi mx).run P w = .ok (a.getD 0, b.getD len, c.getD cap) w := by
  cases c with
  | none =>
    simp only [OptIs] at hc
    subst hc
    cases b with
    | none =>
      simp only [OptIs] at hb
      subst hb
      cases a with
      | none => simp only [OptIs] at ha; subst ha; simp [Instr.sliceBounds]
      | some a =>
        obtain ⟨j, rfl⟩ := ha
        simp only [Option.getD_some, Option.getD_none] at h3
        simp [Instr.sliceBounds, sliceBound_run h3]
    | some b =>
      obtain ⟨j, rfl⟩ := hb
      simp only [Option.getD_some, Option.getD_none] at h2 h3
      cases a with
      | none => simp only [OptIs] at ha; subst ha; simp [Instr.sliceBounds, sliceBound_run h2]
      | some a =>
        obtain ⟨j', rfl⟩ := ha
        simp only [Option.getD_some] at h3
        simp [Instr.sliceBounds, sliceBound_run h2, sliceBound_run h3]
  | some c =>
    obtain ⟨j, rfl⟩ := hc
    simp only [Option.getD_some] at h1 h2
    cases b with
    | none => simp at hm
    | some b =>
      obtain ⟨j', rfl⟩ := hb
      simp only [Option.getD_some] at h2 h3
      cases a with
      | none => simp only [OptIs] at ha; subst ha; simp [Instr.sliceBounds, sliceBound_run h1, sliceBound_run h2]
      | some a =>
        obtain ⟨j'', rfl⟩ := ha
        simp only [Option.getD_some] at h3
        simp [Instr.sliceBounds, sliceBound_run h1, sliceBound_run h2, sliceBound_run h3]
theorem mem_slice_x {lo hi mx : Option Operand} : x ∈ (Op.slice t x lo hi mx).operands.toList := by simp [Op.operands]
theorem mem_slice_lo {lo hi mx : Option Operand} {z : Operand} (h : lo = some z) : z ∈ (Op.slice t x lo hi mx).operands.toList := by subst h; simp [Op.operands]
theorem mem_slice_hi {lo hi mx : Option Operand} {z : Operand} (h : hi = some z) : z ∈ (Op.slice t x lo hi mx).operands.toList := by subst h; simp [Op.operands]
theorem mem_slice_mx {lo hi mx : Option Operand} {z : Operand} (h : mx = some z) : z ∈ (Op.slice t x lo hi mx).operands.toList := by subst h; simp [Op.operands]
theorem sliceAt_run {d : TypeDesc} (hd : P.underlying t = some d) (hn : ∀ n e, d ≠ .array n e) (v : Value) (lo hi mx : Option Value) (w : World) : (Instr.sliceAt t v lo hi mx).run P w = (Instr.slice t v lo hi mx).run P w := by
  simp only [Instr.sliceAt, Sem.run_bind, run_underlying hd, Result.andThen_ok]
theorem sliceStr_ok {lo hi : Option Operand} {f : Opd} {flo fhi : Option Opd} (hd : P.underlying t = some .string) (hf : E.opd x = .ok f) (hlo : E.opdO lo = .ok flo) (hhi : E.opdO hi = .ok fhi) :
    KOk P X ⟨dst, .slice t x lo hi none, ty, pos, after, g⟩ E (.pur (sliceStrF f flo fhi)) := by
  intro ρ l tm ev w v ho h
  obtain ⟨u, hu, h⟩ := bind_eq.1 h
  obtain ⟨a, ha, h⟩ := bind_eq.1 h
  obtain ⟨b, hb, h⟩ := bind_eq.1 h
  obtain ⟨n, s, rfl, h⟩ := onStr_eq.1 h
  obtain ⟨h1, h⟩ := tst_eq.1 h
  rw [band_eq, Bool.and_eq_true, natBle_eq, natBle_eq] at h1
  cases h
  have h2 := ho x mem_slice_x f _ hf hu
  rw [den_str] at h2
  have h3 := opdO_ok hlo ha fun z hz => ho z (mem_slice_lo hz)
  have h4 := opdO_ok hhi hb fun z hz => ho z (mem_slice_hi hz)
  refine ⟨_, den_str _ _ _, ?_⟩
  simp only [execOp, ← Option.some.inj h2, Option.map_none]
  refine exec_v ?_
  rw [sliceAt_run hd (by intros; simp)]
  simp only [Instr.slice, Sem.run_bind, run_underlying hd, Result.andThen_ok, Option.isSome_none, Bool.false_eq_true, if_false, bytesOf_size, Sem.run_pure]
  rw [sliceBounds_run (c := none) h3 h4 rfl (by simp) (by simp) (by simpa using h1.1) h1.2]
  simp only [Result.andThen_ok, bytesOf_sub n s _ _ h1.2 h1.1]
theorem sliceArr_ok {e : TypeId} {es k : Nat} {lo hi mx : Option Operand} {f : Opd} {flo fhi : Option Opd} (hd : P.underlying t = some (.array k e)) (hn : szOf P e = .ok es) (hf : E.opd x = .ok f) (hlo : E.opdO lo = .ok flo) (hhi : E.opdO hi = .ok fhi)
    (hmx : E.opdO mx = .ok none) : KOk P X ⟨dst, .slice t x lo hi mx, ty, pos, after, g⟩ E (.pur (sliceArrF es k f flo fhi)) := by
  intro ρ l tm ev w v ho h
  obtain ⟨u, hu, h⟩ := bind_eq.1 h
  obtain ⟨a, ha, h⟩ := bind_eq.1 h
  obtain ⟨b, hb, h⟩ := bind_eq.1 h
  obtain ⟨b', off, rfl, h⟩ := onPtr_eq.1 h
  obtain ⟨h6, h⟩ := tst_eq.1 h
  cases h
  rw [band_eq, Bool.and_eq_true, natBle_eq, natBle_eq] at h6
  have h2 := ho x mem_slice_x f _ hf hu
  have h3 := opdO_ok hlo ha fun z hz => ho z (mem_slice_lo hz)
  have h4 := opdO_ok hhi hb fun z hz => ho z (mem_slice_hi hz)
  have hm0 : mx = none := by
    cases mx with
    | none => rfl
    | some z => obtain ⟨_, _, h⟩ := bind_eq.1 hmx; cases h
  subst hm0
  obtain ⟨lc, hl, hx⟩ := den_ptr_eq ρ h2
  refine ⟨_, den_slc hl (c := .exact (k - a.getD 0)) (cap := k - a.getD 0) rfl, ?_⟩
  simp only [execOp, hx, Option.map_none]
  refine exec_v ?_
  simp only [Instr.sliceAt, Instr.sureAddr, Sem.run_bind, run_underlying hd, Result.andThen_ok, Sem.run_pure]
  rw [sliceBounds_run (c := none) h3 h4 rfl (by simp) (by simp) (by simpa using h6.1) h6.2]
  simp only [Result.andThen_ok, run_sizeOf' hn, Option.getD_none, bsel_eq, natBeq_eq]
  split
  · rfl
  · simp only [addr_add, Nat.add_assoc]
theorem slice_ok {e : TypeId} {es : Nat} {lo hi mx : Option Operand} {f : Opd} {flo fhi fmx : Option Opd} (hd : P.underlying t = some (.slice e)) (hn : szOf P e = .ok es) (hf : E.opd x = .ok f) (hlo : E.opdO lo = .ok flo) (hhi : E.opdO hi = .ok fhi)
    (hmx : E.opdO mx = .ok fmx) (hmh : mx.isSome = true → hi.isSome = true) : KOk P X ⟨dst, .slice t x lo hi mx, ty, pos, after, g⟩ E (.pur (sliceF es f flo fhi fmx)) := by
  intro ρ l tm ev w v ho h
  obtain ⟨u, hu, h⟩ := bind_eq.1 h
  obtain ⟨a, ha, h⟩ := bind_eq.1 h
  obtain ⟨b, hb, h⟩ := bind_eq.1 h
  obtain ⟨c, hc, h⟩ := bind_eq.1 h
  have h2 := ho x mem_slice_x f _ hf hu
  have h3 := opdO_ok hlo ha fun z hz => ho z (mem_slice_lo hz)
  have h4 := opdO_ok hhi hb fun z hz => ho z (mem_slice_hi hz)
  have h5 := opdO_ok hmx hc fun z hz => ho z (mem_slice_mx hz)
  have hm : c.isSome = true → b.isSome = true := by
    intro hcs
    cases c with
    | none => cases hcs
    | some c =>
      obtain ⟨j, hj⟩ := h5
      cases mx with
      | none => simp at hj
      | some z =>
        have := hmh rfl
        cases hi with
        | none => cases this
        | some z' =>
          cases b with
          | none => simp [OptIs] at h4
          | some b => rfl
  have run : ∀ (ad : Option Addr) (n cap : Nat), ev x = .slice ad n cap → c.getD cap ≤ cap → b.getD n ≤ c.getD cap → a.getD 0 ≤ b.getD n →
      (execOp ev ⟨dst, .slice t x lo hi mx, ty, pos, after, g⟩).run P w = .ok (.value (.slice (if c.getD cap = a.getD 0 then ad else ad.map (·.add (a.getD 0 * es))) (b.getD n - a.getD 0) (c.getD cap - a.getD 0))) w := by
    intro ad n cap hx g1 g2 g3
    simp only [execOp, hx]
    refine exec_v ?_
    rw [sliceAt_run hd (by intros; simp)]
    simp only [Instr.slice, Sem.run_bind, run_underlying hd, Result.andThen_ok]
    rw [sliceBounds_run h3 h4 h5 hm g1 g2 g3]
    simp only [Result.andThen_ok, run_sizeOf' hn, Sem.run_pure]
  have bad : ∀ {α : Prop}, (R.err [105] : R AV) = .ok v → α := fun h => by cases h
  cases u with
  | slc b' off n cap =>
    obtain ⟨lc, cp, hl, hx, hcap⟩ := den_slc_eq h2
    cases cap with
    | room k' =>
      obtain ⟨rfl, hk⟩ := hcap
      cases c with
      | none =>
        simp only [sliceV] at h
        obtain ⟨h6, h⟩ := tst_eq.1 h
        rw [band_eq, Bool.and_eq_true, natBle_eq, natBle_eq] at h6
        rw [bsel_eq] at h
        have hr := run _ n _ hx (by simp) (by simp only [Option.getD_none]; omega) h6.2
        simp only [Option.getD_none] at hr
        split at h
        · rename_i h7; rw [natBlt_eq] at h7
          cases h
          refine ⟨_, den_slc hl (c := .room (k' + a.getD 0)) (cap := lc.cap - (k' + a.getD 0)) ⟨rfl, by omega⟩, ?_⟩
          rw [hr, if_neg (by omega)]
          simp only [Option.map_some, addr_add, Nat.add_assoc, Nat.sub_sub]
        · rename_i h7; rw [natBlt_eq] at h7
          cases h
          have ea : a.getD 0 = n := by omega
          have eb : b.getD n = n := by omega
          refine ⟨_, den_slcE hl _ _ _, ?_⟩
          rw [hr, ea, eb]
          by_cases he : lc.cap ≤ k' + n
          · rw [if_pos he, if_pos (by omega)]
            have e1 : n - n = 0 := by omega
            have e2 : lc.cap - k' - n = 0 := by omega
            rw [e1, e2]
          · rw [if_neg he, if_neg (by omega)]
            have e1 : n - n = 0 := by omega
            simp only [Option.map_some, addr_add, Nat.add_assoc, Nat.sub_sub, e1]
      | some m =>
        simp only [sliceV] at h
        obtain ⟨h6, h⟩ := tst_eq.1 h
        simp only [band_eq, Bool.and_eq_true, natBle_eq, natBlt_eq] at h6
        cases h
        have hr := run _ n _ hx (by simp only [Option.getD_some]; omega) (by simp only [Option.getD_some]; omega) h6.2.2.1
        simp only [Option.getD_some] at hr
        refine ⟨_, den_slc hl (c := .exact (m - a.getD 0)) rfl, ?_⟩
        rw [hr, if_neg (by omega)]
        simp only [Option.map_some, addr_add, Nat.add_assoc]
    | exact c' =>
      obtain rfl : cp = c' := hcap
      simp only [sliceV] at h
      obtain ⟨h6, h⟩ := tst_eq.1 h
      simp only [band_eq, Bool.and_eq_true, natBle_eq] at h6
      have hr := run _ n _ hx h6.1 h6.2.1 h6.2.2
      rw [bsel_eq] at h
      split at h
      · rename_i h7; rw [natBeq_eq] at h7
        cases h
        refine ⟨_, den_slc hl (c := .exact 0) rfl, ?_⟩
        have e2 : c.getD cp - a.getD 0 = 0 := by omega
        rw [hr, if_pos h7, e2]
      · rename_i h7; rw [natBeq_eq] at h7
        cases h
        refine ⟨_, den_slc hl (c := .exact (c.getD cp - a.getD 0)) rfl, ?_⟩
        rw [hr, if_neg h7]
        simp only [Option.map_some, addr_add, Nat.add_assoc]
  | slcE b' o0 o1 k' =>
    simp only [sliceV] at h
    split at h
    · rename_i h6 h7
      cases h
      simp only [den, Option.map_eq_some_iff] at h2
      obtain ⟨lc, hl, hx⟩ := h2
      refine ⟨_, den_slcE hl _ _ _, ?_⟩
      by_cases he : lc.cap ≤ k'
      · rw [if_pos he] at hx ⊢
        have hr := run _ 0 0 hx.symm (by simp) (by simp [h7]) (by simp [h6])
        rw [hr]
        simp [h6, h7]
      · rw [if_neg he] at hx ⊢
        have hr := run _ 0 _ hx.symm (by simp) (by simp [h7]) (by simp [h6])
        rw [hr]
        simp only [Option.getD_none, h6, h7]
        rw [if_neg (by omega)]
        simp [Addr.add]
    · cases h
  | slc0 =>
    simp only [sliceV] at h
    split at h
    · rename_i h6 h7 h8
      cases h
      rw [den_slc0] at h2
      refine ⟨_, den_slc0 _, ?_⟩
      have hr := run none 0 0 (Option.some.inj h2).symm (by simp [h8]) (by simp [h7, h8]) (by simp [h6, h7])
      rw [hr, h6, h7, h8]
      simp
    · cases h
  | _ => exact bad h

theorem func_ok {fn : FuncId} {first cap : Array Operand} {ff fc : List Opd} (h1 : E.opdL first.toList = .ok ff) (h2 : E.opdL cap.toList = .ok fc) : KOk P X ⟨dst, .makeFunc (.func fn) first cap, ty, pos, after, g⟩ E (.pur (funcF fn ff fc)) := by
  intro ρ l tm ev w v ho h
  obtain ⟨a, ha, h⟩ := bind_eq.1 h
  obtain ⟨b, hb, h⟩ := bind_eq.1 h
  cases h
  have g1 := opdL_ok h1 ha fun z hz => ho z (by simp only [Op.operands, Array.toList_append, List.mem_append]; exact .inl hz)
  have g2 := opdL_ok h2 hb fun z hz => ho z (by simp only [Op.operands, Array.toList_append, List.mem_append]; exact .inr hz)
  refine ⟨.func (.func fn) (first.map ev) (cap.map ev), ?_, ?_⟩
  · have e1 : (first.toList.map ev).toArray = first.map ev := Array.toList_inj.1 (by simp)
    have e2 : (cap.toList.map ev).toArray = cap.map ev := Array.toList_inj.1 (by simp)
    simp only [den, g1, g2, e1, e2]
  · simp only [execOp]
    exact exec_v rfl
theorem absFlat_ok {ρ : Rho} {v : Value} {a : AV} (h : absFlat v = .ok a) : den ρ a = some v ∧ oneV a = true := by
  unfold absFlat at h
  split at h
  · cases h; exact ⟨den_bool _ _, rfl⟩
  · cases h; exact ⟨den_int _ _ _, rfl⟩
  · cases h; exact ⟨by simp only [den], rfl⟩
  · cases h
    refine ⟨?_, rfl⟩
    rw [den_str]
    congr 2
    unfold bytesOf
    rw [len_eq, bytesL_encL]
  · cases h; exact ⟨den_nilp _, rfl⟩
  · cases h; exact ⟨den_slc0 _, rfl⟩
  · cases h; exact ⟨by simp only [den], rfl⟩
  · cases h; exact ⟨by simp only [den], rfl⟩
  · cases h; exact ⟨den_nilIface _, rfl⟩
  · cases h
theorem absFlatL_ok {ρ : Rho} : ∀ {l : List Value} {a : List AV}, mapR absFlat l = .ok a → denL ρ a = some l ∧ a.all oneV = true
  | [], a, h => by cases h; exact ⟨rfl, rfl⟩
  | v :: r, a, h => by
    obtain ⟨y, ys, h1, h2, rfl⟩ := mapR_cons_eq.1 h
    obtain ⟨g1, g2⟩ := absFlat_ok (ρ := ρ) h1
    obtain ⟨g3, g4⟩ := absFlatL_ok (ρ := ρ) h2
    exact ⟨denL_cons_eq.2 ⟨v, r, g1, g3, rfl⟩, by simp [g2, g4]⟩
theorem absV_ok {ρ : Rho} {v : Value} {a : AV} (h : absV v = .ok a) : den ρ a = some v := by
  unfold absV at h
  split at h
  · obtain ⟨l, h1, h⟩ := bind_eq.1 h
    cases h
    obtain ⟨g1, g2⟩ := absFlatL_ok (ρ := ρ) h1
    rw [den_agg g2 g1]
  · obtain ⟨l, h1, h⟩ := bind_eq.1 h
    cases h
    obtain ⟨g1, g2⟩ := absFlatL_ok (ρ := ρ) h1
    rw [den_tuple g1]
  · exact (absFlat_ok h).1
theorem zeroOf_ok {z : AV} (h : zeroOf P t = .ok z) : ∃ v, (∀ w, (zeroValue t).run P w = .ok v w) ∧ ∀ ρ, den ρ z = some v := by
  obtain ⟨i, h1, h⟩ := bind_eq.1 h
  obtain ⟨v, h2, h⟩ := bind_eq.1 h
  have h1 := ofOpt_eq.1 h1
  have h2 := ofOpt_eq.1 h2
  exact ⟨v, fun w => by simp [zeroValue, run_typeInfo' h1, h2], fun ρ => absV_ok h⟩
theorem assert_ok {xt : TypeId} {d : TypeDesc} {z : AV} (hd : P.underlying t = some d) (hn : ∀ ms, d ≠ .interface ms) (hz : zeroOf P t = .ok z) (hk : E.pur1 (assertV t z) x = .ok k) :
    KOk P X ⟨dst, .typeAssert x xt t true, ty, pos, after, g⟩ E k :=
  pur1_ok hk (by simp [Op.operands]) fun ρ v u ev w h1 h2 => by
    obtain ⟨zv, hz1, hz2⟩ := zeroOf_ok hz
    have f1 : den ρ (.tuple [z, .bool false]) = some (.tuple #[zv, .bool false]) := den_tuple (denL_cons_eq.2 ⟨zv, [.bool false], hz2 ρ, denL_cons_eq.2 ⟨.bool false, [], den_bool _ _, rfl, rfl⟩, rfl⟩)
    unfold assertV at h1
    split at h1
    · cases h1
      rw [den_nilIface] at h2
      refine ⟨_, f1, ?_⟩
      simp only [execOp, ← Option.some.inj h2]
      refine exec_v ?_
      simp only [Instr.typeAssert, Sem.run_bind, run_underlying hd, Result.andThen_ok]
      cases d <;> first | exact absurd rfl (hn _) | simp [hz1]
    · rename_i t' v'
      simp only [den, Option.map_eq_some_iff] at h2
      obtain ⟨xv, hxv, hx⟩ := h2
      rw [bsel_eq] at h1
      split at h1
      · rename_i he; rw [natBeq_eq] at he
        cases h1
        refine ⟨.tuple #[xv, .bool true], den_tuple (denL_cons_eq.2 ⟨xv, [.bool true], hxv, denL_cons_eq.2 ⟨.bool true, [], den_bool _ _, rfl, rfl⟩, rfl⟩), ?_⟩
        simp only [execOp, ← hx]
        refine exec_v ?_
        simp only [Instr.typeAssert, Sem.run_bind, run_underlying hd, Result.andThen_ok]
        cases d <;> first | exact absurd rfl (hn _) | simp [he]
      · rename_i he; rw [natBeq_eq] at he
        cases h1
        refine ⟨_, f1, ?_⟩
        simp only [execOp, ← hx]
        refine exec_v ?_
        simp only [Instr.typeAssert, Sem.run_bind, run_underlying hd, Result.andThen_ok]
        cases d <;> first | exact absurd rfl (hn _) | simp [he, hz1]
    · cases h1
theorem sliceData_run (P : Program) (ts : Array TypeId) (ty : TypeId) (a : Addr) (n : Nat) {c : Nat} (h : c ≠ 0) (w : World) : (Builtin.unsafeSliceData_ ts ty #[.slice (some a) n c]).run P w = .ok (.pointer (some a)) w := by
  have e : Builtin.unsafeSliceData_ ts ty #[.slice (some a) n c] = (if c ≠ 0 then pure (.pointer (some a)) else (do if (← viewAt a.block).isSome then pure (.pointer (some a)) else pure (.pointer (some ⟨← newObj (.view a (← elemOf ty)), 0, none⟩)))) := rfl
  rw [e, if_pos h]; rfl
theorem sliceData_ok {ts : Array TypeId} (hk : E.pur1 sliceDataV x = .ok k) : KOk P X ⟨dst, .call ⟨.builtin .unsafeSliceData, #[x], ts⟩, ty, pos, after, g⟩ E k :=
  pur1_ok hk (by simp [Op.operands, Call.operands]) fun ρ v u ev w h1 h2 => by
    unfold sliceDataV at h1
    split at h1
    · cases h1
      rw [den_slc0] at h2
      refine ⟨_, den_nilp ρ, ?_⟩
      simp only [execOp, resolve, List.map_toArray, List.map_cons, List.map_nil, ← Option.some.inj h2]
      rfl
    · obtain ⟨h3, h1⟩ := tst_eq.1 h1
      cases h1
      rw [bnot_eq, Bool.not_eq_true', natBeq_dec, decide_eq_false_iff_not] at h3
      obtain ⟨lc, cp, hl, hx, rfl⟩ := den_slc_eq h2
      refine ⟨_, den_ptr ρ hl _, ?_⟩
      simp only [execOp, resolve, List.map_toArray, List.map_cons, List.map_nil, hx]
      simp [invoke, builtin, sliceData_run P _ _ _ _ h3]
    · obtain ⟨h3, h1⟩ := tst_eq.1 h1
      cases h1
      rw [bnot_eq, Bool.not_eq_true', natBeq_dec, decide_eq_false_iff_not] at h3
      obtain ⟨lc, cp, hl, hx, hcp, hk⟩ := den_slc_eq h2
      have : cp ≠ 0 := by omega
      refine ⟨_, den_ptr ρ hl _, ?_⟩
      simp only [execOp, resolve, List.map_toArray, List.map_cons, List.map_nil, hx]
      simp [invoke, builtin, sliceData_run P _ _ _ _ this]
    · cases h1
end
end Go.AX
/- The abstract executor: literals and new objects: they are the model's. -/
namespace Go.AX

theorem denL_all {l : List AV} {m : List AV} (h1 : l.all oneV = true) (h2 : m.all oneV = true) : (l ++ m).all oneV = true := by simp [List.all_append, h1, h2]
theorem all_take {l : List AV} (n : Nat) (h : l.all oneV = true) : (l.take n).all oneV = true := List.all_eq_true.2 fun z hz => List.all_eq_true.1 h z (List.mem_of_mem_take hz)
theorem all_drop {l : List AV} (n : Nat) (h : l.all oneV = true) : (l.drop n).all oneV = true := List.all_eq_true.2 fun z hz => List.all_eq_true.1 h z (List.mem_of_mem_drop hz)
theorem denL_over {ρ : Rho} {vs l : List AV} {ys xs : List Value} (n : Nat) (h : n + vs.length ≤ l.length) (h1 : denL ρ vs = some ys) (h2 : denL ρ l = some xs) :
    denL ρ (over n vs l) = some (xs.take n ++ ys ++ xs.drop (n + vs.length)) := by
  rw [over_eq vs n l (by omega)]
  exact denL_app (denL_app (denL_take n h2) h1) (denL_drop _ h2)
theorem all_over {vs l : List AV} (n : Nat) (h : n + vs.length ≤ l.length) (h1 : vs.all oneV = true) (h2 : l.all oneV = true) : (over n vs l).all oneV = true := by
  rw [over_eq vs n l (by omega)]
  exact denL_all (denL_all (all_take n h2) h1) (all_drop _ h2)
theorem foldl_set (off : Nat) : ∀ (vs : List Value) (j : Nat) (cs : Array Value), off + j + vs.length ≤ cs.size →
    (vs.zipIdx j).foldl (fun cs p => cs.setIfInBounds (off + p.2) p.1) cs = (cs.toList.take (off + j) ++ vs ++ cs.toList.drop (off + j + vs.length)).toArray
  | [], j, cs, _ => by apply Array.toList_inj.1; simp
  | v :: vs, j, cs, h => by
    simp only [List.zipIdx_cons, List.foldl_cons]
    rw [foldl_set off vs (j + 1) _ (by simp at h ⊢; omega)]
    congr 1
    simp at h
    apply List.ext_getElem?
    intro i
    have ht : (cs.toList.take (off + j)).length = off + j := by simp; omega
    have ht' : ((cs.setIfInBounds (off + j) v).toList.take (off + (j + 1))).length = off + (j + 1) := by simp; omega
    rw [List.append_assoc, List.append_assoc]
    by_cases h1 : i < off + j
    · rw [List.getElem?_append_left (by omega), List.getElem?_append_left (by omega), List.getElem?_take_of_lt (by omega), List.getElem?_take_of_lt (by omega)]
      simp only [Array.toList_setIfInBounds]
      rw [List.getElem?_set_ne (by omega)]
    · rw [List.getElem?_append_right (l₁ := cs.toList.take (off + j)) (by omega), ht]
      by_cases h2 : i = off + j
      · subst h2
        rw [List.getElem?_append_left (by omega), List.getElem?_take_of_lt (by omega)]
        simp only [Array.toList_setIfInBounds, Nat.sub_self]
        rw [List.getElem?_set_self (by simp; omega)]
        simp
      · rw [List.getElem?_append_right (by omega), ht']
        have e1 : i - (off + j) = (i - (off + (j + 1))) + 1 := by omega
        rw [e1, List.cons_append, List.getElem?_cons_succ]
        by_cases h3 : i - (off + (j + 1)) < vs.length
        · rw [List.getElem?_append_left h3, List.getElem?_append_left h3]
        · rw [List.getElem?_append_right (by omega), List.getElem?_append_right (by omega), List.getElem?_drop, List.getElem?_drop]
          simp only [Array.toList_setIfInBounds]
          rw [List.getElem?_set_ne (by simp; omega)]
          congr 1
          simp; omega
theorem fill_step {place : Nat → Option (Nat × Nat)} {i off size : Nat} {v : Value} {xs ys : List Value} {rest : List (Nat × Value)} (hp : place i = some (off, size)) (hv : v.cells = ys.toArray) (hs : ys.length = size) (hl : off + size ≤ xs.length) :
    Instr.fill place xs.toArray ((i, v) :: rest) = Instr.fill place (xs.take off ++ ys ++ xs.drop (off + size)).toArray rest := by
  simp only [Instr.fill, hp, hv, List.size_toArray, hs]
  rw [if_neg (by simp; omega)]
  congr 1
  rw [← Array.foldl_toList, Array.toList_zipIdx]
  have := foldl_set off ys 0 xs.toArray (by simp; omega)
  simp only [Nat.add_zero, hs] at this
  exact this
section
variable {P : Program} {X : Ext} {E : CE} {k : OpK} {x y : Operand} {dst : Option Tmp} {ty : TypeId} {pos : String} {after : Array Edge} {g : Option (Nat × Bool)} {t : TypeId}
theorem fillA_cons (p : (Nat × Nat) × Opd) (q : List ((Nat × Nat) × Opd)) (l : List AV) (tm : Q AV) (cs : List AV) : fillA (p :: q) l tm cs =
    (p.2 l tm).bind fun v => v.cells.bind fun vs => tst 43 (band (Nat.beq (len vs) p.1.2) (Nat.ble (p.1.1 + p.1.2) (len cs))) (fillA q l tm (over p.1.1 vs cs)) := rfl
theorem fillA_ok {ρ : Rho} {l : List AV} {tm : Q AV} {ev : Operand → Value} {place : Nat → Option (Nat × Nat)} {c : Nat × Operand → R ((Nat × Nat) × Opd)}
    (hc : ∀ p r, c p = .ok r → place p.1 = some r.1 ∧ E.opd p.2 = .ok r.2) : ∀ (ps : List (Nat × Operand)) (q : List ((Nat × Nat) × Opd)) (z : List AV) (zs : List Value) (cs : List AV), mapR c ps = .ok q → denL ρ z = some zs → z.all oneV = true →
    fillA q l tm z = .ok cs → (∀ p, p ∈ ps → OpdOk ρ E l tm ev p.2) → ∃ ys, denL ρ cs = some ys ∧ cs.all oneV = true ∧ Instr.fill place zs.toArray (ps.map fun p => (p.1, ev p.2)) = some ys.toArray
  | [], q, z, zs, cs, hq, hz, ha, h, _ => by cases hq; cases h; exact ⟨zs, hz, ha, rfl⟩
  | p :: ps, q, z, zs, cs, hq, hz, ha, h, ho => by
    obtain ⟨⟨⟨ro, rn⟩, rg⟩, q', h1, h2, rfl⟩ := mapR_cons_eq.1 hq
    obtain ⟨h3, h4⟩ := hc p _ h1
    simp only at h3 h4
    rw [fillA_cons] at h
    obtain ⟨v, h5, h⟩ := bind_eq.1 h
    obtain ⟨vs, h6, h⟩ := bind_eq.1 h
    obtain ⟨h7, h⟩ := tst_eq.1 h
    rw [band_eq, Bool.and_eq_true, natBeq_eq, natBle_eq, len_eq, len_eq] at h7
    simp only at h7
    obtain ⟨ys, g1, g2, g3⟩ := cells_den h6 (ho p (by simp) rg v h4 h5)
    have hle : ro + vs.length ≤ z.length := by omega
    obtain ⟨us, f1, f2, f3⟩ := fillA_ok hc ps q' (over ro vs z) _ cs h2 (denL_over ro hle g1 hz) (all_over ro hle g3 ha) h (fun p' hp' => ho p' (by simp [hp']))
    refine ⟨us, f1, f2, ?_⟩
    simp only [List.map_cons]
    have hys : ys.length = rn := by rw [denL_length g1]; exact h7.1
    have hzs := denL_length hz
    rw [fill_step (xs := zs) (ys := ys) h3 g2 hys (by omega), ← f3]
    rw [h7.1]
theorem places_run (P : Program) (w : World) : ∀ (fs : List Field) (ss : List Nat), mapR (fun f : Field => szOf P f.type) fs = .ok ss →
    ∃ ps : List (Nat × Nat), (fs.mapM (fun f => (do pure (f.offset, ← sizeOf f.type) : Sem (Nat × Nat)))).run P w = .ok ps w ∧ ∀ (i : Nat) (f : Field) (n : Nat), fs[i]? = some f → szOf P f.type = .ok n → ps[i]? = some (f.offset, n)
  | [], ss, _ => ⟨[], rfl, fun i f n h => by simp at h⟩
  | f :: fs, ss, h => by
    obtain ⟨n, ns, h1, h2, rfl⟩ := mapR_cons_eq.1 h
    obtain ⟨ps, g1, g2⟩ := places_run P w fs ns h2
    refine ⟨(f.offset, n) :: ps, by simp only [List.mapM_cons, Sem.run_bind, run_sizeOf' h1, Result.andThen_ok, Sem.run_pure, g1], fun i f' n' hf hn => ?_⟩
    cases i with
    | zero => simp at hf; subst hf; rw [h1] at hn; cases hn; rfl
    | succ i => simpa using g2 i f' n' (by simpa using hf) hn
theorem mem_build {ps : Array (Nat × Operand)} {p : Nat × Operand} (h : p ∈ ps.toList) : p.2 ∈ (Op.build t ps).operands.toList := by
  simp only [Op.operands]; exact List.mem_map.2 ⟨p, h, rfl⟩
theorem mem_buildSlice {n : Nat} {ps : Array (Nat × Operand)} {p : Nat × Operand} (h : p ∈ ps.toList) : p.2 ∈ (Op.buildSlice t n ps).operands.toList := by
  simp only [Op.operands]; exact List.mem_map.2 ⟨p, h, rfl⟩
theorem zero_cells {z : AV} {l : List AV} (hz : zeroOf P t = .ok z) (hl : z.cells = .ok l) : ∃ v, (∀ w, (zeroValue t).run P w = .ok v w) ∧ ∀ ρ, ∃ ys, denL ρ l = some ys ∧ v.cells = ys.toArray ∧ l.all oneV = true := by
  obtain ⟨v, h1, h2⟩ := zeroOf_ok hz
  exact ⟨v, h1, fun ρ => cells_den hl (h2 ρ)⟩
theorem buildS_ok {ps : Array (Nat × Operand)} {fs : Array Field} {z : AV} {l0 : List AV} {q : List ((Nat × Nat) × Opd)} {ss : List Nat} (hz : zeroOf P t = .ok z) (hl : z.cells = .ok l0) (hd : P.underlying t = some (.struct fs)) (hP : E.P = P)
    (hq : mapR (fun p : Nat × Operand => (R.ofOpt 250 fs[p.1]?).bind fun f => (szOf E.P f.type).bind fun n => (E.opd p.2).bind fun g => .ok ((f.offset, n), g)) ps.toList = .ok q) (hs : mapR (fun f : Field => szOf P f.type) fs.toList = .ok ss) :
    KOk P X ⟨dst, .build t ps, ty, pos, after, g⟩ E (.pur (buildF l0 q)) := by
  intro ρ l tm ev w v ho h
  obtain ⟨cs, h1, h⟩ := bind_eq.1 h
  cases h
  obtain ⟨zv, hz1, hz2⟩ := zero_cells hz hl
  obtain ⟨zs, g1, g2, g3⟩ := hz2 ρ
  obtain ⟨pl, p1, p2⟩ := places_run P w fs.toList ss hs
  have hc : ∀ (p : Nat × Operand) r, ((R.ofOpt 250 fs[p.1]?).bind fun f => (szOf E.P f.type).bind fun n => (E.opd p.2).bind fun g => .ok ((f.offset, n), g)) = R.ok r → (fun i => pl.toArray[i]?) p.1 = some r.1 ∧ E.opd p.2 = .ok r.2 := by
    intro p r hr
    obtain ⟨f, e1, hr⟩ := bind_eq.1 hr
    obtain ⟨n, e2, hr⟩ := bind_eq.1 hr
    obtain ⟨g, e3, hr⟩ := bind_eq.1 hr
    cases hr
    rw [hP] at e2
    exact ⟨by simpa using p2 p.1 f n (by simpa using ofOpt_eq.1 e1) e2, e3⟩
  obtain ⟨ys, f1, f2, f3⟩ := fillA_ok (place := fun i => pl.toArray[i]?) (ρ := ρ) (l := l) (tm := tm) (ev := ev) hc ps.toList q l0 zs cs hq g1 g3 h1 (fun p hp => ho p.2 (mem_build hp))
  refine ⟨_, den_agg f2 f1, ?_⟩
  simp only [execOp]
  refine exec_v ?_
  simp only [Instr.build, Sem.run_bind, hz1, Result.andThen_ok, run_underlying hd, Array.mapM_eq_mapM_toList, Sem.run_map, p1, g2]
  have e : (ps.map fun (i, x) => (i, ev x)).toList = ps.toList.map fun p => (p.1, ev p.2) := by simp
  rw [e, f3]
  rfl
theorem buildA_ok {ps : Array (Nat × Operand)} {m : Nat} {e : TypeId} {n : Nat} {z : AV} {l0 : List AV} {q : List ((Nat × Nat) × Opd)} (hz : zeroOf P t = .ok z) (hl : z.cells = .ok l0) (hd : P.underlying t = some (.array m e)) (hn : szOf P e = .ok n)
    (hq : mapR (fun p : Nat × Operand => (E.opd p.2).bind fun g => .ok ((p.1 * n, n), g)) ps.toList = .ok q) : KOk P X ⟨dst, .build t ps, ty, pos, after, g⟩ E (.pur (buildF l0 q)) := by
  intro ρ l tm ev w v ho h
  obtain ⟨cs, h1, h⟩ := bind_eq.1 h
  cases h
  obtain ⟨zv, hz1, hz2⟩ := zero_cells hz hl
  obtain ⟨zs, g1, g2, g3⟩ := hz2 ρ
  have hc : ∀ (p : Nat × Operand) r, ((E.opd p.2).bind fun g => .ok ((p.1 * n, n), g)) = R.ok r → (fun i => some (i * n, n)) p.1 = some r.1 ∧ E.opd p.2 = .ok r.2 := by
    intro p r hr
    obtain ⟨g, e3, hr⟩ := bind_eq.1 hr
    cases hr
    exact ⟨rfl, e3⟩
  obtain ⟨ys, f1, f2, f3⟩ := fillA_ok (place := fun i => some (i * n, n)) (ρ := ρ) (l := l) (tm := tm) (ev := ev) hc ps.toList q l0 zs cs hq g1 g3 h1 (fun p hp => ho p.2 (mem_build hp))
  refine ⟨_, den_agg f2 f1, ?_⟩
  simp only [execOp]
  refine exec_v ?_
  simp only [Instr.build, Sem.run_bind, hz1, Result.andThen_ok, run_underlying hd, run_sizeOf' hn, g2]
  have e : (ps.map fun (i, x) => (i, ev x)).toList = ps.toList.map fun p => (p.1, ev p.2) := by simp
  rw [e, f3]
  rfl

theorem cellsOk_list {ρ : Rho} {l : List AV} {ys : List Value} (h : denL ρ l = some ys) (ha : l.all oneV = true) : CellsOk ρ 0 l.length ys.toArray (fun i => l[i]?) := by
  intro i v hv
  obtain ⟨z, h1, h2⟩ := denL_get h i v hv
  exact ⟨(List.getElem?_eq_some_iff.1 hv).1, all_get ha hv, z, by simpa using h1, h2⟩
theorem box_obj {ρ : Rho} {w : World} {e : TypeId} {l : List AV} {ys : List Value} {cap : Nat} (h : denL ρ l = some ys) (ha : l.all oneV = true) : ObjOk ρ ⟨w.heap.size, 0, cap⟩ (w.alloc (.cells ys.toArray e)) (.box e false l) :=
  ⟨ys.toArray, e, 0, alloc_new w _, by simp [denL_length h], ⟨fun _ => ⟨rfl, rfl, by simp [denL_length h]⟩, fun _ => ⟨rfl, by simp [denL_length h]⟩⟩, cellsOk_list h ha⟩
theorem alloc_ok {e : TypeId} {z : AV} {l0 : List AV} (hz : zeroOf P e = .ok z) (hl : z.cells = .ok l0) : KOk P X ⟨dst, .alloc e, ty, pos, after, g⟩ E (.alc (allocF e l0)) := by
  intro ρ l tm b ev w v ob ho hb h
  cases h
  obtain ⟨zv, hz1, hz2⟩ := zero_cells hz hl
  obtain ⟨zs, g1, g2, g3⟩ := hz2 (ρ.upd b ⟨w.heap.size, 0, 0⟩)
  refine ⟨.pointer (some ⟨w.heap.size, 0, none⟩), .cells zs.toArray e, 0, ?_, rfl, den_ptr _ (Rho.upd_same _ _ _) 0, box_obj g1 g3⟩
  simp only [execOp]
  refine exec_v ?_
  simp [Instr.alloc, newVar, newRow, hz1, g2]
theorem box_ok {e : TypeId} {f : Opd} (hf : E.opd x = .ok f) : KOk P X ⟨dst, .box e x, ty, pos, after, g⟩ E (.alc (boxF e f)) := by
  intro ρ l tm b ev w v ob ho hb h
  obtain ⟨u, hu, h⟩ := bind_eq.1 h
  obtain ⟨cs, hc, h⟩ := bind_eq.1 h
  cases h
  obtain ⟨ys, g1, g2, g3⟩ := cells_den hc (ho x (by simp [Op.operands]) f u hf hu)
  refine ⟨.pointer (some ⟨w.heap.size, 0, none⟩), .cells ys.toArray e, 0, ?_, rfl, den_ptr _ (Rho.upd_same _ _ _) 0, box_obj (denL_mono (Rho.le_upd ρ _ hb) g1) g3⟩
  simp only [execOp]
  refine exec_v ?_
  simp [Instr.box, newVar, newRow, g2]
theorem makeMap_obj {ρ : Rho} {w : World} {cap : Nat} : ObjOk ρ ⟨w.heap.size, 0, cap⟩ (w.alloc (.map #[] 0)) (.map [] 0) :=
  ⟨#[], alloc_new w _, rfl, fun i e x he => by simp at he⟩
theorem den_map {ρ : Rho} {b : Id} {l : Loc} (h : ρ b = some l) : den ρ (.map b) = some (.map (some l.cb)) := by simp only [den, h, Option.map_some]
theorem makeMap_ok : KOk P X ⟨dst, .makeMap t none, ty, pos, after, g⟩ E (.alc makeMapF) := by
  intro ρ l tm b ev w v ob ho hb h
  cases h
  refine ⟨.map (some w.heap.size), .map #[] 0, 0, ?_, rfl, den_map (Rho.upd_same _ _ _), makeMap_obj⟩
  simp only [execOp]
  exact exec_v (by simp [Instr.makeMap])
theorem makeMapN_ok {f : Opd} {kt et : TypeId} (hd : P.underlying t = some (.map kt et)) (hf : E.opd x = .ok f) : KOk P X ⟨dst, .makeMap t (some x), ty, pos, after, g⟩ E (.alc (makeMapNF f)) := by
  intro ρ l tm b ev w v ob ho hb h
  obtain ⟨u, hu, h⟩ := bind_eq.1 h
  obtain ⟨j, i, rfl, h⟩ := onInt_eq.1 h
  cases h
  have h2 := ho x (by simp [Op.operands]) f _ hf hu
  rw [den_int] at h2
  refine ⟨.map (some w.heap.size), .map #[] 0, 0, ?_, rfl, den_map (Rho.upd_same _ _ _), makeMap_obj⟩
  simp only [execOp, Option.map_some, ← Option.some.inj h2]
  exact exec_v (by simp [Instr.makeMap, run_underlying hd, asInt, asIntOf])

theorem layRow_get : ∀ (vs : List (List AV)) (i : Nat) (c : Q (List AV)) (j : Nat), Q.get (pathOf j) (layRow vs i c) = if i ≤ j ∧ j < i + vs.length then vs[j - i]? else Q.get (pathOf j) c
  | [], i, c, j => by rw [if_neg (by simp)]; rfl
  | v :: vs, i, c, j => by
    show Q.get (pathOf j) (layRow vs (i + 1) (Q.set (pathOf i) (some v) c)) = _
    rw [layRow_get vs (i + 1) _ j]
    by_cases h1 : i + 1 ≤ j ∧ j < i + 1 + vs.length
    · rw [if_pos h1, if_pos (by simp; omega)]
      have : j - i = (j - (i + 1)) + 1 := by omega
      rw [this]; simp
    · rw [if_neg h1, Q.get_set]
      by_cases h2 : pathOf j = pathOf i
      · have := pathOf_inj h2; subst this
        rw [if_pos rfl, if_pos (by simp)]; simp
      · rw [if_neg h2, if_neg]
        intro h3
        simp at h3
        exact h2 (by congr 1; omega)
def ElemsOk (ρ : Rho) (es : Nat) (vs : List (List AV)) (xs : List Value) : Prop := denL ρ vs.flatten = some xs ∧ ∀ v, v ∈ vs → v.length = es ∧ v.all oneV = true
theorem ElemsOk.length {ρ : Rho} {es : Nat} {vs : List (List AV)} {xs : List Value} (h : ElemsOk ρ es vs xs) : xs.length = vs.length * es := by
  rw [denL_length h.1]
  have h2 := h.2
  clear h
  induction vs with
  | nil => simp
  | cons v vs ih =>
    simp only [List.flatten_cons, List.length_append, List.length_cons, Nat.add_mul, Nat.one_mul]
    rw [ih fun u hu => h2 u (by simp [hu]), (h2 v (by simp)).1]; omega
theorem flatten_get {es : Nat} : ∀ (vs : List (List AV)) (j r : Nat) (u : List AV), (∀ v, v ∈ vs → v.length = es) → vs[j]? = some u → r < es → vs.flatten[j * es + r]? = u[r]?
  | [], j, r, u, _, h, _ => by simp at h
  | v :: vs, 0, r, u, hl, h, hr => by
    simp at h; subst h
    have := hl v (by simp)
    simp only [List.flatten_cons, Nat.zero_mul, Nat.zero_add]
    rw [List.getElem?_append_left (by omega)]
  | v :: vs, j + 1, r, u, hl, h, hr => by
    have hv := hl v (by simp)
    simp only [List.flatten_cons]
    rw [List.getElem?_append_right (by rw [Nat.add_mul]; omega)]
    have : (j + 1) * es + r - v.length = j * es + r := by rw [Nat.add_mul]; omega
    rw [this]
    exact flatten_get vs j r u (fun v' hv' => hl v' (by simp [hv'])) (by simpa using h) hr
theorem ElemsOk.get {ρ : Rho} {es : Nat} {vs : List (List AV)} {xs : List Value} (h : ElemsOk ρ es vs xs) {j : Nat} {u : List AV} (hu : vs[j]? = some u) {r : Nat} {v : AV} (hv : u[r]? = some v) :
    oneV v = true ∧ ∃ x, xs[j * es + r]? = some x ∧ den ρ v = some x := by
  have hm := h.2 u (List.mem_of_getElem? hu)
  have hr : r < es := by
    have := (List.getElem?_eq_some_iff.1 hv).1
    omega
  have h1 := flatten_get vs j r u (fun v hv => (h.2 v hv).1) hu hr
  rw [hv] at h1
  obtain ⟨x, hx, hd⟩ := denL_get h.1 _ _ h1
  exact ⟨all_get hm.2 hv, x, hx, hd⟩
theorem cellsOk_row {ρ : Rho} {es : Nat} {vs : List (List AV)} {xs : List Value} (h : ElemsOk ρ es vs xs) (cs : Array Value) (hc : ∀ i : Nat, i < xs.length → cs[i]? = xs[i]?) : CellsOk ρ 0 (vs.length * es) cs (rowGet es (layRow vs 0 .nil)) := by
  intro i v hv
  obtain ⟨u, h1, h2⟩ := Option.bind_eq_some_iff.1 hv
  rw [layRow_get] at h1
  split at h1
  · obtain ⟨g1, x, g2, g3⟩ := h.get (j := i / es) (u := u) (by simpa using h1) h2
    have he : i / es * es + i % es = i := Nat.div_add_mod' i es
    rw [he] at g2
    have hlt := (List.getElem?_eq_some_iff.1 g2).1
    refine ⟨by rw [← h.length]; exact hlt, g1, x, ?_, g3⟩
    rw [Nat.zero_add, hc i hlt, g2]
  · simp at h1
theorem fill_row {es : Nat} : ∀ (vs : List (List Value)) (xs : List Value) (l : List (Nat × Value)) (j : Nat), l.length = vs.length → (∀ v, v ∈ vs → v.length = es) → (∀ (i : Nat) (p : Nat × Value) (v : List Value), l[i]? = some p → vs[i]? = some v → p.1 = j + i ∧ p.2.cells = v.toArray) → (j + vs.length) * es ≤ xs.length →
    Instr.fill (fun i => some (i * es, es)) xs.toArray l = some (xs.take (j * es) ++ vs.flatten ++ xs.drop ((j + vs.length) * es)).toArray
  | [], xs, [], j, _, _, _, _ => by simp [Instr.fill]
  | [], xs, _ :: _, j, hl, _, _, _ => by simp at hl
  | v :: vs, xs, [], j, hl, _, _, _ => by simp at hl
  | v :: vs, xs, p :: l, j, hl, he, hp, hs => by
    obtain ⟨h1, h2⟩ := hp 0 p v rfl rfl
    have hv := he v (by simp)
    have hs' : (j + 1 + vs.length) * es ≤ xs.length := by simp at hs; rw [show j + 1 + vs.length = j + (vs.length + 1) by omega]; exact hs
    have hj : j * es + es ≤ xs.length := by
      have : (j + 1) * es ≤ (j + 1 + vs.length) * es := Nat.mul_le_mul_right _ (by omega)
      rw [Nat.add_mul, Nat.one_mul] at this; omega
    obtain ⟨pi, pv⟩ := p
    simp only [Nat.add_zero] at h1 h2
    subst h1
    rw [fill_step (off := pi * es) (size := es) rfl h2 hv hj]
    have hlen : (xs.take (pi * es) ++ v ++ xs.drop (pi * es + es)).length = xs.length := by simp; omega
    rw [fill_row vs _ l (pi + 1) (by simpa using hl) (fun u hu => he u (by simp [hu])) (fun i p' v' hp' hv' => by
      have := hp (i + 1) p' v' (by simpa using hp') (by simpa using hv')
      exact ⟨by omega, this.2⟩) (by rw [hlen]; exact hs')]
    congr 2
    have e1 : (pi + 1) * es = pi * es + es := by rw [Nat.add_mul, Nat.one_mul]
    have e2 : (pi + (vs.length + 1)) * es = (pi + 1 + vs.length) * es := by congr 1; omega
    have ht : (xs.take (pi * es)).length = pi * es := by simp; omega
    have ht2 : (xs.take (pi * es) ++ v).length = (pi + 1) * es := by simp; omega
    rw [List.length_cons, e2, List.flatten_cons]
    have a1 : (xs.take (pi * es) ++ v ++ xs.drop (pi * es + es)).take ((pi + 1) * es) = xs.take (pi * es) ++ v := by
      rw [List.take_append_of_le_length (by omega), List.take_of_length_le (by omega)]
    have a2 : (xs.take (pi * es) ++ v ++ xs.drop (pi * es + es)).drop ((pi + 1 + vs.length) * es) = xs.drop ((pi + 1 + vs.length) * es) := by
      rw [List.drop_append, List.drop_eq_nil_of_le (by rw [ht2]; exact Nat.mul_le_mul_right _ (by omega)), List.nil_append, ht2, List.drop_drop]
      congr 1
      have : (pi + 1) * es ≤ (pi + 1 + vs.length) * es := Nat.mul_le_mul_right _ (by omega)
      omega
    rw [a1, a2]
    simp [List.append_assoc]
end
end Go.AX
/- The abstract executor: slices made, and reading: they are the model's. -/
namespace Go.AX
section
variable {P : Program} {X : Ext} {E : CE} {k : OpK} {x y : Operand} {dst : Option Tmp} {ty : TypeId} {pos : String} {after : Array Edge} {g : Option (Nat × Bool)} {t : TypeId}

theorem elemsA_ok {ρ : Rho} {es : Nat} {l : List AV} {tm : Q AV} {ev : Operand → Value} : ∀ {xs : List Operand} {q : List Opd} {vs : List (List AV)}, E.opdL xs = .ok q → elemsA es q l tm = .ok vs → (∀ x, x ∈ xs → OpdOk ρ E l tm ev x) →
    ∃ ys : List (List Value), ys.length = xs.length ∧ vs.length = xs.length ∧ ElemsOk ρ es vs ys.flatten ∧ (∀ u, u ∈ ys → u.length = es) ∧ ∀ (i : Nat) (z : Operand) (u : List Value), xs[i]? = some z → ys[i]? = some u → (ev z).cells = u.toArray
  | [], q, vs, h1, h2, _ => by cases h1; cases h2; exact ⟨[], rfl, rfl, ⟨rfl, fun v hv => by simp at hv⟩, fun u hu => by simp at hu, fun i z u hz => by simp at hz⟩
  | x :: xs, q, vs, h1, h2, h => by
    obtain ⟨f, fs, hf, hfs, rfl⟩ := mapR_cons_eq.1 h1
    obtain ⟨w, ws, hw, hws, rfl⟩ := mapR_cons_eq.1 h2
    obtain ⟨v, hv, hw⟩ := bind_eq.1 hw
    obtain ⟨cs, hc, hw⟩ := bind_eq.1 hw
    obtain ⟨hl, hw⟩ := tst_eq.1 hw
    cases hw
    rw [natBeq_eq, len_eq] at hl
    obtain ⟨us, g1, g2, g3⟩ := cells_den hc (h x (by simp) f v hf hv)
    obtain ⟨ys, f1, f2, f3, f4, f5⟩ := elemsA_ok hfs hws fun z hz => h z (by simp [hz])
    refine ⟨us :: ys, by simp [f1], by simp [f2], ⟨?_, fun v hv => ?_⟩, fun u hu => ?_, fun i z u hz hu => ?_⟩
    · simp only [List.flatten_cons]; exact denL_app g1 f3.1
    · rcases List.mem_cons.1 hv with rfl | hv
      · exact ⟨hl, g3⟩
      · exact f3.2 v hv
    · rcases List.mem_cons.1 hu with rfl | hu
      · rw [denL_length g1, hl]
      · exact f4 u hu
    · cases i with
      | zero => simp at hz hu; subst hz; subst hu; exact g2
      | succ i => exact f5 i z u (by simpa using hz) (by simpa using hu)
theorem inOrder_eq : ∀ {l : List (Nat × Operand)} {j : Nat}, inOrder l j = true → ∀ (i : Nat) (p : Nat × Operand), l[i]? = some p → p.1 = j + i
  | [], j, _, i, p, h => by simp at h
  | a :: l, j, h, i, p, hp => by
    have h' : band (Nat.beq j a.1) (inOrder l (j + 1)) = true := h
    rw [band_eq, Bool.and_eq_true, natBeq_eq] at h'
    cases i with
    | zero => simp at hp; subst hp; omega
    | succ i => have := inOrder_eq h'.2 i p (by simpa using hp); omega
theorem row_obj {ρ : Rho} {w : World} {e : TypeId} {es n cap : Nat} {vs : List (List AV)} {xs : List Value} (h : ElemsOk ρ es vs xs) (hn : vs.length = n) (cs : Array Value) (hs : cs.size = n * es) (hc : ∀ i : Nat, i < xs.length → cs[i]? = xs[i]?) :
    ObjOk ρ ⟨w.heap.size, 0, cap⟩ (w.alloc (.cells cs e)) (.cells e false false es (n * es) .clean (layRow vs 0 .nil)) :=
  ⟨cs, 0, 0, alloc_new w _, by simp [hs], (fun h => by cases h), rfl, by rw [← hn]; exact cellsOk_row h cs hc⟩
theorem zero_of_info {e : TypeId} {i : TypeInfo} {zv : Value} (hi : P.info? e = some i) (hz : i.zero = some zv) (w : World) : (zeroValue e).run P w = .ok zv w := by simp [zeroValue, run_typeInfo' hi, hz]
theorem sz_of_info {e : TypeId} {i : TypeInfo} (hi : P.info? e = some i) (w : World) : (sizeOf e).run P w = .ok i.size w := by simp [sizeOf, run_typeInfo' hi]
theorem buildSlice_ok {e : TypeId} {i : TypeInfo} {n : Nat} {ps : Array (Nat × Operand)} {q : List Opd} {zv : Value} (hd : P.underlying t = some (.slice e)) (hi : P.info? e = some i) (hz : i.zero = some zv) (ho : inOrder ps.toList 0 = true) (hl : ps.toList.length = n)
    (hb : n * i.size ≤ 16777216) (hq : E.opdL (ps.toList.map (·.2)) = .ok q) : KOk P X ⟨dst, .buildSlice t n ps, ty, pos, after, g⟩ E (.alc (buildSliceF e i.size n q)) := by
  intro ρ l tm b ev w v ob hop hbn h
  obtain ⟨vs, h1, h⟩ := bind_eq.1 h
  cases h
  obtain ⟨ys, f1, f2, f3, f4, f5⟩ := elemsA_ok (ρ := ρ) (ev := ev) hq h1 fun z hz => by
    obtain ⟨p, hp, rfl⟩ := List.mem_map.1 hz
    exact hop p.2 (mem_buildSlice hp)
  have hys : ys.length = n := by rw [f1, List.length_map, hl]
  have hvs : vs.length = n := by rw [f2, List.length_map, hl]
  have hfl : ys.flatten.length = n * i.size := by rw [f3.length, hvs]
  refine ⟨.slice (some ⟨w.heap.size, 0, none⟩) n n, .cells ys.flatten.toArray e, 0, ?_, rfl, den_slc (c := .exact n) (Rho.upd_same _ _ _) rfl, row_obj ⟨denL_mono (Rho.le_upd ρ _ hbn) f3.1, f3.2⟩ hvs _ (by simpa using hfl) (fun j _ => by simp)⟩
  simp only [execOp]
  refine exec_v ?_
  simp only [Instr.buildSlice, Sem.run_bind, run_underlying hd, Result.andThen_ok, sz_of_info hi]
  rw [if_neg (by omega)]
  have hz' : ∀ zc : Array Value, Instr.fill (fun j => some (j * i.size, i.size)) ((Array.range (n * i.size)).map (zc[· % zc.size]!)) (ps.map fun (i, x) => (i, ev x)).toList = some ys.flatten.toArray := by
    intro zc
    have e1 : (Array.range (n * i.size)).map (zc[· % zc.size]!) = ((List.range (n * i.size)).map fun j => zc[j % zc.size]!).toArray := by
      apply Array.toList_inj.1; simp
    rw [e1, fill_row ys _ _ 0 (by simp [hys, hl]) f4 (fun j p v hp hv => by
      simp only [Array.toList_map, List.getElem?_map, Option.map_eq_some_iff] at hp
      obtain ⟨p', hp', rfl⟩ := hp
      exact ⟨by simpa using inOrder_eq ho j p' hp', f5 j p'.2 v (by simp [hp']) hv⟩) (by simp [hys])]
    congr 1
    simp [hys]
  by_cases h0 : n * i.size = 0
  · rw [if_pos h0]
    simp only [Sem.run_pure, Result.andThen_ok, hz', newRow, Sem.run_bind, run_newObj]
    rfl
  · rw [if_neg h0]
    simp only [Sem.run_bind, zero_of_info hi hz, Sem.run_pure, Result.andThen_ok, hz', newRow, run_newObj]
    rfl
theorem denL_rep {ρ : Rho} {zl : List AV} {zs : List Value} (c : Nat) (h : denL ρ zl = some zs) : denL ρ (List.replicate c zl).flatten = some (List.replicate c zs).flatten := by
  induction c with
  | zero => rfl
  | succ c ih => simp only [List.replicate_succ, List.flatten_cons]; exact denL_app h ih
theorem makeSlice_ok {e : TypeId} {i : TypeInfo} {zv : Value} {z : AV} {zl : List AV} {fx fy : Opd} (hd : P.underlying t = some (.slice e)) (hi : P.info? e = some i) (hz : i.zero = some zv) (hza : absV zv = .ok z) (hzc : z.cells = .ok zl) (hzl : zl.length = i.size)
    (hx : E.opd x = .ok fx) (hy : E.opd y = .ok fy) : KOk P X ⟨dst, .makeSlice t x y, ty, pos, after, g⟩ E (.alc (makeSliceF e i.size i.bytes zl fx fy)) := by
  intro ρ l tm b ev w v ob hop hbn h
  obtain ⟨vx, h1, h⟩ := bind_eq.1 h
  obtain ⟨n, h2, h⟩ := bind_eq.1 h
  obtain ⟨vy, h3, h⟩ := bind_eq.1 h
  obtain ⟨c, h4, h⟩ := bind_eq.1 h
  obtain ⟨h5, h⟩ := tst_eq.1 h
  cases h
  rw [band_eq, band_eq, Bool.and_eq_true, Bool.and_eq_true, natBle_eq, natBle_eq, natBle_eq] at h5
  obtain ⟨j, rfl⟩ := natOf_eq h2
  obtain ⟨j', rfl⟩ := natOf_eq h4
  have g1 := hop x (by simp [Op.operands]) fx _ hx h1
  have g2 := hop y (by simp [Op.operands]) fy _ hy h3
  rw [den_int] at g1 g2
  obtain ⟨zs, e1, e2, e3⟩ := cells_den (ρ := ρ) hzc (absV_ok hza)
  have hzs : zs.length = i.size := by rw [denL_length e1, hzl]
  have hel : ElemsOk ρ i.size (List.replicate c zl) (List.replicate c zs).flatten := by
    exact ⟨denL_rep c e1, fun u hu => by obtain rfl := (List.mem_replicate.1 hu).2; exact ⟨hzl, e3⟩⟩
  have hlen : (List.replicate c zs).flatten.length = c * i.size := by rw [hel.length]; simp
  have hfl : ∀ r, r < c * i.size → (List.replicate c zs).flatten[r]? = zs[r % i.size]? := by
    intro r hr
    have hpos : 0 < i.size := by
      rcases Nat.eq_zero_or_pos i.size with h0 | h0
      · rw [h0] at hr; simp at hr
      · exact h0
    have h6 : r / i.size < c := by rw [Nat.div_lt_iff_lt_mul hpos]; exact hr
    have h7 : (List.replicate c zs)[r / i.size]? = some zs := by rw [List.getElem?_replicate, if_pos h6]
    have gen : ∀ (vs : List (List Value)) (j r : Nat) (u : List Value), (∀ v, v ∈ vs → v.length = i.size) → vs[j]? = some u → r < i.size → vs.flatten[j * i.size + r]? = u[r]? := by
      intro vs
      induction vs with
      | nil => intro j r u _ h; simp at h
      | cons v vs ih =>
        intro j r u hl h hr
        have hv := hl v (by simp)
        cases j with
        | zero =>
          simp at h; subst h
          simp only [List.flatten_cons, Nat.zero_mul, Nat.zero_add]
          rw [List.getElem?_append_left (by omega)]
        | succ j =>
          simp only [List.flatten_cons]
          rw [List.getElem?_append_right (by rw [Nat.add_mul]; omega)]
          have : (j + 1) * i.size + r - v.length = j * i.size + r := by rw [Nat.add_mul]; omega
          rw [this]
          exact ih j r u (fun v' hv' => hl v' (by simp [hv'])) (by simpa using h) hr
    have := gen (List.replicate c zs) (r / i.size) (r % i.size) zs (fun v hv => by obtain rfl := (List.mem_replicate.1 hv).2; exact hzs) h7 (Nat.mod_lt _ hpos)
    rw [Nat.div_add_mod'] at this
    exact this
  let cs : Array Value := (Array.range (c * i.size)).map ((if c * i.size = 0 then #[] else zs.toArray)[· % (if c * i.size = 0 then (#[] : Array Value) else zs.toArray).size]!)
  have hcs : cs.size = c * i.size := by simp [cs]
  refine ⟨.slice (some ⟨w.heap.size, 0, none⟩) n c, .cells cs e, 0, ?_, rfl, den_slc (c := .exact c) (Rho.upd_same _ _ _) rfl, row_obj ⟨denL_mono (Rho.le_upd ρ _ hbn) hel.1, hel.2⟩ (by simp) cs hcs (fun r hr => ?_)⟩
  · simp only [execOp, ← Option.some.inj g1, ← Option.some.inj g2]
    refine exec_v ?_
    have w1 : IntKind.wrap .i64 (n : Int) = n := wrap_i64_fit _ (by omega)
    have w2 : IntKind.wrap .i64 (c : Int) = c := wrap_i64_fit _ (by omega)
    have hbc : ((i.bytes : Int) * (c : Int)) = ((i.bytes * c : Nat) : Int) := by simp
    simp only [Instr.makeSlice, Sem.run_bind, run_underlying hd, Result.andThen_ok, asInt, asIntOf, Sem.run_pure, Int.ofNat_eq_natCast, run_typeInfo' hi, w1, w2, hbc]
    rw [if_neg (by
      simp only [Bool.or_eq_true, decide_eq_true_eq, not_or]
      refine ⟨⟨⟨by omega, ?_⟩, by omega⟩, by omega⟩
      have : i.bytes * c ≤ 1073741824 := h5.2.1
      have e : (2 : Int) ^ 48 = 281474976710656 := by decide
      rw [e]; omega)]
    simp only [run_askRoom, Result.andThen_ok, Int.toNat_natCast, Sem.run_bind, sz_of_info hi]
    by_cases h0 : c * i.size = 0
    · rw [if_pos h0]
      simp only [Sem.run_pure, Result.andThen_ok, newRow, Sem.run_bind, run_newObj, cs, if_pos h0]
      rfl
    · rw [if_neg h0]
      simp only [Sem.run_bind, zero_of_info hi hz, Sem.run_pure, Result.andThen_ok, newRow, run_newObj, e2, cs, if_neg h0]
      rfl
  · rw [hlen] at hr
    have h0 : c * i.size ≠ 0 := by omega
    rw [hfl r hr]
    simp only [cs, if_neg h0]
    have hpos : 0 < i.size := Nat.pos_of_ne_zero fun h => h0 (by rw [h]; simp)
    have hlt : r % i.size < zs.length := by rw [hzs]; exact Nat.mod_lt _ hpos
    rw [Array.getElem?_map, Array.getElem?_range, if_pos hr]
    simp only [Option.map_some, List.size_toArray, hzs]
    rw [getElem!_pos _ _ (by simpa using hlt), List.getElem?_eq_getElem hlt]
    simp

theorem cell_box {ρ : Rho} {lc : Loc} {w : World} {e : TypeId} {ro : Bool} {c : List AV} (h : ObjOk ρ lc w (.box e ro c)) {i : Nat} {v : AV} (hv : c[i]? = some v) : ∃ x, w.cell? ⟨lc.cb, lc.co + i, none⟩ = some x ∧ den ρ v = some x ∧ oneV v = true := by
  obtain ⟨cs, e', z, h1, _, _, h4⟩ := h
  obtain ⟨_, g1, x, g2, g3⟩ := h4 i v hv
  exact ⟨x, by rw [cell_of_block h1]; exact g2, g3, g1⟩
theorem cell_row {ρ : Rho} {lc : Loc} {w : World} {e : TypeId} {ro op : Bool} {es size : Nat} {fr : Fr} {c : Q (List AV)} (h : ObjOk ρ lc w (.cells e ro op es size fr c)) {i : Nat} {v : AV} (hv : rowGet es c i = some v) :
    ∃ x, w.cell? ⟨lc.cb, lc.co + i, none⟩ = some x ∧ den ρ v = some x ∧ oneV v = true := by
  obtain ⟨cs, lo, hi, h1, _, _, _, h5⟩ := h
  obtain ⟨_, g1, x, g2, g3⟩ := h5 i v hv
  exact ⟨x, by rw [cell_of_block h1]; exact g2, g3, g1⟩
theorem cellAt_eq {es : Nat} {c : Q (List AV)} {i : Nat} {v : AV} : cellAt es c i = .ok v ↔ rowGet es c i = some v := by
  unfold cellAt rowGet
  rw [ofOpt_eq]
  have : (nth (i % es) : List AV → Option AV) = fun l => l[i % es]? := funext fun l => nth_eq _ l
  rw [this]
theorem cellsFrom_eq {es : Nat} {c : Q (List AV)} : ∀ {n i : Nat} {vs : List AV}, cellsFrom es c n i = .ok vs → vs.length = n ∧ ∀ (j : Nat) (v : AV), vs[j]? = some v → rowGet es c (i + j) = some v
  | 0, i, vs, h => by
    have h : R.ok [] = R.ok vs := h
    cases h; exact ⟨rfl, fun j v hv => by simp at hv⟩
  | n + 1, i, vs, h => by
    have h : ((cellAt es c i).bind fun v => (cellsFrom es c n (i + 1)).bind fun vs => .ok (v :: vs)) = .ok vs := h
    obtain ⟨v, h1, h⟩ := bind_eq.1 h
    obtain ⟨ws, h2, h⟩ := bind_eq.1 h
    cases h
    obtain ⟨g1, g2⟩ := cellsFrom_eq h2
    refine ⟨by simp [g1], fun j u hu => ?_⟩
    cases j with
    | zero => simp at hu; subst hu; exact cellAt_eq.1 h1
    | succ j => have := g2 j u (by simpa using hu); rw [← this]; congr 1; omega
theorem getRun_eq {es : Nat} {c : Q (List AV)} {off n : Nat} {vs : List AV} (h : getRun es c off n = .ok vs) : vs.length = n ∧ ∀ (j : Nat) (v : AV), vs[j]? = some v → rowGet es c (off + j) = some v := by
  unfold getRun at h
  rw [bsel_eq] at h
  split at h
  · rename_i h0
    rw [band_eq, Bool.and_eq_true, natBeq_eq, natBeq_eq] at h0
    obtain ⟨l, h1, h⟩ := bind_eq.1 h
    obtain ⟨h2, h⟩ := tst_eq.1 h
    cases h
    rw [natBeq_eq, len_eq] at h2
    refine ⟨h2, fun j v hv => ?_⟩
    have hj : j < es := by have := (List.getElem?_eq_some_iff.1 hv).1; omega
    have hoff : off = off / es * es := by have := Nat.div_add_mod' off es; omega
    have e1 : (off + j) / es = off / es := by
      rw [hoff, Nat.add_comm, Nat.add_mul_div_right _ _ (by omega), Nat.div_eq_of_lt hj, Nat.zero_add, Nat.mul_div_cancel _ (by omega)]
    have e2 : (off + j) % es = j := by
      rw [hoff, Nat.add_comm, Nat.add_mul_mod_self_right, Nat.mod_eq_of_lt hj]
    unfold rowGet
    rw [e1, e2, Q.at_eq.1 h1]
    exact hv
  · exact cellsFrom_eq h
theorem getBox_eq {l : List AV} {off n : Nat} {vs : List AV} (h : getBox l off n = .ok vs) : vs.length = n ∧ ∀ (j : Nat) (v : AV), vs[j]? = some v → l[off + j]? = some v := by
  unfold getBox at h
  rw [bsel_eq] at h
  split at h
  · rename_i h0
    rw [band_eq, Bool.and_eq_true, natBeq_eq, natBeq_eq, len_eq] at h0
    cases h
    exact ⟨h0.2, fun j v hv => by rw [h0.1, Nat.zero_add]; exact hv⟩
  · obtain ⟨h1, h⟩ := tst_eq.1 h
    rw [natBle_eq, len_eq] at h1
    cases h
    simp only [takeN_eq, dropN_eq]
    refine ⟨by simp; omega, fun j v hv => ?_⟩
    have hj : j < n := by have := (List.getElem?_eq_some_iff.1 hv).1; simp at this; omega
    rw [List.getElem?_take_of_lt hj, List.getElem?_drop] at hv
    exact hv
theorem run_cells {ρ : Rho} {w : World} {cb o : Nat} : ∀ {vs : List AV}, (∀ (j : Nat) (v : AV), vs[j]? = some v → ∃ x, w.cell? ⟨cb, o + j, none⟩ = some x ∧ den ρ v = some x ∧ oneV v = true) →
    ∃ xs, denL ρ vs = some xs ∧ vs.all oneV = true ∧ ∀ j, j < vs.length → w.cell? ⟨cb, o + j, none⟩ = xs[j]? := by
  intro vs
  induction vs generalizing o with
  | nil => intro _; exact ⟨[], rfl, rfl, fun j hj => by simp at hj⟩
  | cons v vs ih =>
    intro h
    obtain ⟨x, h1, h2, h3⟩ := h 0 v rfl
    obtain ⟨xs, g1, g2, g3⟩ := ih (o := o + 1) (fun j u hu => by
      have := h (j + 1) u (by simpa using hu)
      rw [show o + 1 + j = o + (j + 1) by omega]; exact this)
    refine ⟨x :: xs, denL_cons_eq.2 ⟨x, xs, h2, g1, rfl⟩, by simp [h3, g2], fun j hj => ?_⟩
    cases j with
    | zero => simpa using h1
    | succ j =>
      have := g3 j (by simpa using hj)
      rw [show o + (j + 1) = o + 1 + j by omega, this]; simp
theorem load1_mem {ρ : Rho} {h : AH} {w : World} {b : Id} {off : Nat} {v : AV} {lc : Loc} (m : Mem P ρ h w) (hl : ρ b = some lc) (hh : ((h.obj b).bind (load1O off)) = .ok v) : ∃ x, w.cell? ⟨lc.cb, lc.co + off, none⟩ = some x ∧ den ρ v = some x ∧ oneV v = true := by
  obtain ⟨ob, h1, hh⟩ := bind_eq.1 hh
  have hob := m.obj b ob lc (Q.at_eq.1 h1) hl
  rcases onBox_eq.1 hh with ⟨e, ro, c, rfl, h2⟩ | ⟨e, ro, op, es, size, fr, c, rfl, h2⟩
  · have h2 := ofOpt_eq.1 h2
    rw [nth_eq] at h2
    exact cell_box hob h2
  · exact cell_row hob (cellAt_eq.1 h2)
theorem loadN_mem {ρ : Rho} {h : AH} {w : World} {b : Id} {off n : Nat} {vs : List AV} {lc : Loc} (m : Mem P ρ h w) (hl : ρ b = some lc) (hh : ((h.obj b).bind (loadO off n)) = .ok vs) :
    vs.length = n ∧ ∃ xs, denL ρ vs = some xs ∧ vs.all oneV = true ∧ ∀ j, j < vs.length → w.cell? ⟨lc.cb, lc.co + off + j, none⟩ = xs[j]? := by
  obtain ⟨ob, h1, hh⟩ := bind_eq.1 hh
  have hob := m.obj b ob lc (Q.at_eq.1 h1) hl
  rcases onBox_eq.1 hh with ⟨e, ro, c, rfl, h2⟩ | ⟨e, ro, op, es, size, fr, c, rfl, h2⟩
  · obtain ⟨g1, g2⟩ := getBox_eq h2
    exact ⟨g1, run_cells fun j v hv => by rw [Nat.add_assoc]; exact cell_box hob (g2 j v hv)⟩
  · obtain ⟨g1, g2⟩ := getRun_eq h2
    exact ⟨g1, run_cells fun j v hv => by rw [Nat.add_assoc]; exact cell_row hob (g2 j v hv)⟩
theorem loadVar1_run {ρ : Rho} {h : AH} {w : World} {b : Id} {off : Nat} {v : AV} {lc : Loc} (m : Mem P ρ h w) (ha : aggOf P t = .ok false) (hl : ρ b = some lc) (hh : ((h.obj b).bind (load1O off)) = .ok v) :
    ∃ x, den ρ v = some x ∧ (loadVar t ⟨lc.cb, lc.co + off, none⟩).run P w = .ok x w := by
  obtain ⟨x, h1, h2, _⟩ := load1_mem m hl hh
  exact ⟨x, h2, by simp [loadVar, run_isAgg' ha, h1]⟩
theorem loadVarN_run {ρ : Rho} {h : AH} {w : World} {b : Id} {off n : Nat} {vs : List AV} {lc : Loc} (m : Mem P ρ h w) (ha : aggOf P t = .ok true) (hn : szOf P t = .ok n) (hl : ρ b = some lc) (hh : ((h.obj b).bind (loadO off n)) = .ok vs) :
    ∃ x, den ρ (.agg vs) = some x ∧ (loadVar t ⟨lc.cb, lc.co + off, none⟩).run P w = .ok x w := by
  obtain ⟨g1, xs, g2, g3, g4⟩ := loadN_mem m hl hh
  refine ⟨.agg xs.toArray, den_agg g3 g2, ?_⟩
  have := loadCells_run P w lc.cb (lc.co + off) n xs (by rw [denL_length g2, g1]) (by rw [← g1]; exact g4)
  simp [loadVar, run_isAgg' ha, run_sizeOf' hn, this]
theorem load1_ok {f : Opd} (ha : aggOf P t = .ok false) (hf : E.opd x = .ok f) : KOk P X ⟨dst, .load t x, ty, pos, after, g⟩ E (.rd (load1F f)) := by
  intro ρ l tm h ev w v hm ho hh
  obtain ⟨u, hu, hh⟩ := bind_eq.1 hh
  obtain ⟨b, off, rfl, hh⟩ := onPtr_eq.1 hh
  obtain ⟨lc, hl, hx⟩ := den_ptr_eq ρ (ho x (by simp [Op.operands]) f _ hf hu)
  obtain ⟨z, h1, h2⟩ := loadVar1_run hm ha hl hh
  refine ⟨z, h1, ?_⟩
  simp only [execOp, hx]
  exact exec_v (by simp [Instr.loadAt, Instr.sureAddr, h2])
theorem loadN_ok {f : Opd} {n : Nat} (ha : aggOf P t = .ok true) (hn : szOf P t = .ok n) (hf : E.opd x = .ok f) : KOk P X ⟨dst, .load t x, ty, pos, after, g⟩ E (.rd (loadNF n f)) := by
  intro ρ l tm h ev w v hm ho hh
  obtain ⟨u, hu, hh⟩ := bind_eq.1 hh
  obtain ⟨b, off, rfl, hh⟩ := onPtr_eq.1 hh
  obtain ⟨ob, h1, hh⟩ := bind_eq.1 hh
  obtain ⟨vs, h2, hh⟩ := bind_eq.1 hh
  cases hh
  obtain ⟨lc, hl, hx⟩ := den_ptr_eq ρ (ho x (by simp [Op.operands]) f _ hf hu)
  obtain ⟨z, h3, h4⟩ := loadVarN_run hm ha hn hl (bind_eq.2 ⟨ob, h1, h2⟩)
  refine ⟨z, h3, ?_⟩
  simp only [execOp, hx]
  exact exec_v (by simp [Instr.loadAt, Instr.sureAddr, h4])
end
end Go.AX
/- The abstract executor: length, equality, maps read, unsafe pointers: they are the model's. -/
namespace Go.AX
section
variable {P : Program} {X : Ext} {E : CE} {k : OpK} {x y : Operand} {dst : Option Tmp} {ty : TypeId} {pos : String} {after : Array Edge} {g : Option (Nat × Bool)} {t : TypeId}

theorem map_mem {ρ : Rho} {h : AH} {w : World} {b : Id} {lc : Loc} {es : List AE} {c : Nat} (m : Mem P ρ h w) (hl : ρ b = some lc) (hb : Q.get b h.tr = some (.map es c)) : ∃ xs : Array MapEntry, w.heap[lc.cb]? = some (.map xs c) ∧ EntriesOk ρ es xs.toList := m.obj b _ lc hb hl
theorem run_getObj_map {w : World} {r : Nat} {xs : Array MapEntry} {c : Nat} (h : w.heap[r]? = some (.map xs c)) : (getObj r).run P w = .ok (.map xs c) w := by simp [getObj, Sem.run, h]

theorem exec_len {ev : Operand → Value} {w : World} {n : Nat} (h : (Builtin.len_ #[t] ty #[ev x]).run P w = .ok (goInt n) w) : (execOp ev ⟨dst, .call ⟨.builtin .len, #[x], #[t]⟩, ty, pos, after, g⟩).run P w = .ok (.value (.int .i64 (.ofNat n))) w := by
  simp only [execOp, resolve, List.map_toArray, List.map_cons, List.map_nil]
  simp [invoke, builtin, h, goInt]
theorem lenStr_ok (hd : P.underlying t = some .string) (hk : E.pur1 lenStrV x = .ok k) : KOk P X ⟨dst, .call ⟨.builtin .len, #[x], #[t]⟩, ty, pos, after, g⟩ E k :=
  pur1_ok hk (by simp [Op.operands, Call.operands]) fun ρ v u ev w h1 h2 => by
    unfold lenStrV at h1
    split at h1
    · cases h1
      obtain ⟨s, _, hx, hs⟩ := den_strL_eq h2
      exact ⟨_, den_int _ _ _, exec_len (by
        have hsz : (⟨s.toArray⟩ : ByteArray).size = s.length := by show s.toArray.size = _; simp
        rw [hx, len_eq, ← hs, ← hsz]; simp [Builtin.len_, run_underlying hd])⟩
    · obtain ⟨l, n, rfl, h⟩ := onStr_eq.1 h1
      cases h
      rw [den_str] at h2
      exact ⟨_, den_int _ _ _, exec_len (by rw [← Option.some.inj h2]; simp [Builtin.len_, run_underlying hd])⟩
theorem lenSlc_ok {e : TypeId} (hd : P.underlying t = some (.slice e)) (hk : E.pur1 lenSlcV x = .ok k) : KOk P X ⟨dst, .call ⟨.builtin .len, #[x], #[t]⟩, ty, pos, after, g⟩ E k :=
  pur1_ok hk (by simp [Op.operands, Call.operands]) fun ρ v u ev w h1 h2 => by
    unfold lenSlcV at h1
    split at h1
    · cases h1
      obtain ⟨lc, cp, hl, hx, _⟩ := den_slc_eq h2
      exact ⟨_, den_int _ _ _, exec_len (by rw [hx]; simp [Builtin.len_, run_underlying hd])⟩
    · cases h1
      rw [den_slc0] at h2
      exact ⟨_, den_int _ _ _, exec_len (by rw [← Option.some.inj h2]; simp [Builtin.len_, run_underlying hd])⟩
    · cases h1
      simp only [den, Option.map_eq_some_iff] at h2
      obtain ⟨lc, hl, hx⟩ := h2
      exact ⟨_, den_int _ _ _, exec_len (by rw [← hx]; split <;> simp [Builtin.len_, run_underlying hd])⟩
    · cases h1
theorem lenMap_ok {kt et : TypeId} (hd : P.underlying t = some (.map kt et)) (hk : E.rd1 lenMapV x = .ok k) : KOk P X ⟨dst, .call ⟨.builtin .len, #[x], #[t]⟩, ty, pos, after, g⟩ E k :=
  rd1_ok hk (by simp [Op.operands, Call.operands]) fun ρ h v u ev w m h1 h2 => by
    unfold lenMapV at h1
    split at h1
    · cases h1
      simp only [den, Option.some.injEq] at h2
      exact ⟨_, den_int _ _ _, exec_len (by rw [← h2]; simp [Builtin.len_, run_underlying hd])⟩
    · obtain ⟨o, h3, h1⟩ := bind_eq.1 h1
      obtain ⟨es, c, rfl, h1⟩ := onMapO_eq.1 h1
      cases h1
      obtain ⟨lc, hl, hx⟩ := den_map_eq ρ h2
      obtain ⟨xs, h4, h5⟩ := map_mem m hl (Q.at_eq.1 h3)
      refine ⟨_, den_int _ _ _, exec_len ?_⟩
      rw [hx]
      have : xs.size = es.length := by simpa using h5.1
      simp [Builtin.len_, run_underlying hd, run_getObj_map h4, this]
    · cases h1

theorem exec_eql {neg : Bool} {ev : Operand → Value} {w : World} {b : Bool} {yt : TypeId} (hb : binOp .eql t (ev x) (ev y) = (do pure (.bool (← Op.equal t (ev x) (ev y))))) (hb' : binOp .neq t (ev x) (ev y) = (do pure (.bool (!(← Op.equal t (ev x) (ev y))))))
    (hg : ∀ op, eqGuard op t x y (ev x) (ev y) = pure ()) (h : (Op.equal t (ev x) (ev y)).run P w = .ok b w) :
    (execOp ev ⟨dst, .binOp (if neg then .neq else .eql) t x y yt, ty, pos, after, g⟩).run P w = .ok (.value (.bool (bsel neg (bnot b) b))) w := by
  refine exec_bin (hg _) ?_
  cases neg
  · simp only [Bool.false_eq_true, if_false, hb]; simp [h]
  · simp only [if_true, hb']; simp [h]
theorem eqlOk {neg : Bool} {yt : TypeId} {eq : AH → AV → AV → R Bool} (hk : E.rd2 (eqV neg eq) x y = .ok k)
    (he : ∀ ρ h v u (ev : Operand → Value) w b, Mem P ρ h w → eq h v u = .ok b → den ρ v = some (ev x) → den ρ u = some (ev y) → binOp .eql t (ev x) (ev y) = (do pure (.bool (← Op.equal t (ev x) (ev y)))) ∧
      binOp .neq t (ev x) (ev y) = (do pure (.bool (!(← Op.equal t (ev x) (ev y))))) ∧ (∀ op, eqGuard op t x y (ev x) (ev y) = pure ()) ∧ (Op.equal t (ev x) (ev y)).run P w = .ok b w) :
    KOk P X ⟨dst, .binOp (if neg then .neq else .eql) t x y yt, ty, pos, after, g⟩ E k :=
  rd2_ok hk (by simp [Op.operands]) (by simp [Op.operands]) fun ρ h v u r ev w m h1 h2 h3 => by
    obtain ⟨b, h4, h1⟩ := bind_eq.1 h1
    cases h1
    obtain ⟨a1, a2, a3, a4⟩ := he ρ h v u ev w b m h4 h2 h3
    exact ⟨_, den_bool _ _, exec_eql a1 a2 a3 a4⟩
theorem equal_succ (t : TypeId) (a b : Value) : Op.equal t a b = Op.equalIn (9999 + 1) t a b := rfl
theorem eqBool_run {a b : Bool} (hd : P.underlying t = some .bool) (w : World) (d : Nat) : (Op.equalIn (d + 1) t (.bool a) (.bool b)).run P w = .ok (a == b) w := by
  simp [Op.equalIn, run_underlying hd]
theorem plain_mem {ρ : Rho} {h : AH} {w : World} {b : Id} {lc : Loc} {o : AO} (m : Mem P ρ h w) (hl : ρ b = some lc) (hb : Q.get b h.tr = some o) (hp : o.plain = true) : ∃ cs e z, w.heap[lc.cb]? = some (.cells cs e (z, z)) := by
  have ho := m.obj b o lc hb hl
  cases o with
  | box e ro c => obtain ⟨cs, e', z, h1, _⟩ := ho; exact ⟨cs, e', z, h1⟩
  | cells e ro op es size fr c =>
    obtain ⟨cs, lo, hi, h1, _, _, h4, _⟩ := ho
    cases fr with
    | clean => have h4 : lo = hi := h4; subst h4; exact ⟨cs, e, lo, h1⟩
    | range a b => cases hp
    | past => cases hp
  | map es c => cases hp
theorem sameAddr_block {cb o o' : Nat} (w : World) : (sameAddr ⟨cb, o, none⟩ ⟨cb, o', none⟩).run P w = .ok (decide (o = o')) w := by
  simp only [sameAddr, beq_self_eq_true, if_true]
  simp only [Sem.run_pure]
  congr 1
  rw [Bool.eq_iff_iff]
  simp
theorem shape_run {w : World} {r : Nat} {cs : Array Value} {e : TypeId} {f : Nat × Nat} (h : w.heap[r]? = some (.cells cs e f)) : (shape r).run P w = .ok (some (e, cs.size)) w := by
  rw [run_shape]; simp [World.shape?, h]
theorem frozen_clean {w : World} {cb o : Nat} {cs : Array Value} {e : TypeId} {z : Nat} (h : w.heap[cb]? = some (.cells cs e (z, z))) : (frozen ⟨cb, o, none⟩).run P w = .ok false w := by
  rw [run_frozen, frozen_of_block h]
  congr 1
  rw [Bool.and_eq_false_iff]
  simp only [decide_eq_false_iff_not]
  omega
theorem sameAddr_other {cb cb' o o' : Nat} {w : World} {cs cs' : Array Value} {e e' : TypeId} {z z' : Nat} (hne : cb ≠ cb') (h : w.heap[cb]? = some (.cells cs e (z, z))) (h' : w.heap[cb']? = some (.cells cs' e' (z', z'))) :
    (sameAddr ⟨cb, o, none⟩ ⟨cb', o', none⟩).run P w = .ok false w := by
  have e1 : (cb == cb') = false := by simpa using hne
  simp only [sameAddr, e1, Bool.false_eq_true, if_false, Sem.run_bind, frozen_clean h, frozen_clean h', Result.andThen_ok, Bool.false_and]
  simp only [noView, viewAt, mayBeOne, stringish, Sem.run_bind, shape_run h, shape_run h', Result.andThen_ok, Option.isSome_some, if_true, frozen_clean h, frozen_clean h', Sem.run_pure, Sem.run_ite,
    Option.isSome_none, Bool.false_eq_true, if_false, Bool.false_and, Bool.or_self]
theorem ptrEq_run {ρ : Rho} {h : AH} {w : World} {b b' : Id} {o o' : Nat} {lc lc' : Loc} {r : Bool} (m : Mem P ρ h w) (hl : ρ b = some lc) (hl' : ρ b' = some lc') (hr : ptrEq h b o b' o' = .ok r) :
    (sameAddr ⟨lc.cb, lc.co + o, none⟩ ⟨lc'.cb, lc'.co + o', none⟩).run P w = .ok r w := by
  unfold ptrEq at hr
  rw [bsel_eq] at hr
  split at hr
  · rename_i he
    have : b = b' := idEq_eq he
    subst this
    rw [hl] at hl'
    cases hl'
    cases hr
    rw [sameAddr_block, natBeq_dec]
    congr 1
    rw [Bool.eq_iff_iff]; simp
  · rename_i he
    have hne : b ≠ b' := fun e => he (by subst e; exact idEq_refl b)
    obtain ⟨o1, h1, hr⟩ := bind_eq.1 hr
    obtain ⟨o2, h2, hr⟩ := bind_eq.1 hr
    obtain ⟨h3, hr⟩ := tst_eq.1 hr
    cases hr
    simp only [band_eq, bor_eq, bnot_eq, Bool.and_eq_true, Bool.or_eq_true, Bool.not_eq_true', natBeq_eq] at h3
    obtain ⟨c1, e1, z1, g1⟩ := plain_mem m hl (Q.at_eq.1 h1) h3.1.1
    obtain ⟨c2, e2, z2, g2⟩ := plain_mem m hl' (Q.at_eq.1 h2) h3.1.2
    by_cases hcb : lc.cb = lc'.cb
    · rcases m.apart b b' o1 o2 lc lc' (Q.at_eq.1 h1) (Q.at_eq.1 h2) hl hl' hne with h4 | ⟨h4, h5, h6⟩
      · exact absurd hcb h4
      · have h7 : o = o' := by
          rcases h3.2 with h8 | h8
          · rw [h4, h5] at h8; cases h8
          · exact h8
        rw [hcb, sameAddr_block]
        congr 1
        simp only [decide_eq_false_iff_not]; omega
    · exact sameAddr_other hcb g1 g2
theorem eqPtr_run {ρ : Rho} {h : AH} {w : World} {e : TypeId} {n : Nat} {v u : AV} {a b : Value} {r : Bool} (m : Mem P ρ h w) (hd : P.underlying t = some (.pointer e)) (hn : szOf P e = .ok n) (h0 : n ≠ 0) (hr : eqPtrV h v u = .ok r) (ha : den ρ v = some a) (hb : den ρ u = some b) (d : Nat) :
    (∃ p q, a = .pointer p ∧ b = .pointer q) ∧ (Op.equalIn (d + 1) t a b).run P w = .ok r w := by
  unfold eqPtrV at hr
  split at hr
  · cases hr
    rw [den_nilp] at ha hb; cases ha; cases hb
    exact ⟨⟨_, _, rfl, rfl⟩, by simp [Op.equalIn, run_underlying hd]⟩
  · cases hr
    rw [den_nilp] at ha; cases ha
    obtain ⟨l, hl, rfl⟩ := den_ptr_eq ρ hb
    exact ⟨⟨_, _, rfl, rfl⟩, by simp [Op.equalIn, run_underlying hd]⟩
  · cases hr
    rw [den_nilp] at hb; cases hb
    obtain ⟨l, hl, rfl⟩ := den_ptr_eq ρ ha
    exact ⟨⟨_, _, rfl, rfl⟩, by simp [Op.equalIn, run_underlying hd]⟩
  · obtain ⟨l, hl, rfl⟩ := den_ptr_eq ρ ha
    obtain ⟨l', hl', rfl⟩ := den_ptr_eq ρ hb
    refine ⟨⟨_, _, rfl, rfl⟩, ?_⟩
    have := ptrEq_run m hl hl' hr
    simp only [Op.equalIn, Sem.run_bind, run_underlying hd, Result.andThen_ok, run_sizeOf' hn]
    rw [if_pos h0]
    exact this
  · cases hr
theorem eqSlc_run {ρ : Rho} {h : AH} {w : World} {e : TypeId} {v u : AV} {a b : Value} {r : Bool} (hd : P.underlying t = some (.slice e)) (hr : eqSlcV h v u = .ok r) (ha : den ρ v = some a) (hb : den ρ u = some b) (d : Nat) :
    (∃ p n c q n' c', a = .slice p n c ∧ b = .slice q n' c') ∧ (Op.equalIn (d + 1) t a b).run P w = .ok r w := by
  unfold eqSlcV at hr
  split at hr
  · cases hr
    rw [den_slc0] at ha hb; cases ha; cases hb
    exact ⟨⟨_, _, _, _, _, _, rfl, rfl⟩, by simp [Op.equalIn, run_underlying hd]⟩
  · cases hr
    rw [den_slc0] at ha; cases ha
    obtain ⟨l, c, hl, rfl, _⟩ := den_slc_eq hb
    exact ⟨⟨_, _, _, _, _, _, rfl, rfl⟩, by simp [Op.equalIn, run_underlying hd]⟩
  · cases hr
    rw [den_slc0] at hb; cases hb
    obtain ⟨l, c, hl, rfl, _⟩ := den_slc_eq ha
    exact ⟨⟨_, _, _, _, _, _, rfl, rfl⟩, by simp [Op.equalIn, run_underlying hd]⟩
  · cases hr
    rw [den_slc0] at ha; cases ha
    simp only [den, Option.map_eq_some_iff] at hb
    obtain ⟨l, hl, rfl⟩ := hb
    split <;> exact ⟨⟨_, _, _, _, _, _, rfl, rfl⟩, by simp [Op.equalIn, run_underlying hd]⟩
  · cases hr
    rw [den_slc0] at hb; cases hb
    simp only [den, Option.map_eq_some_iff] at ha
    obtain ⟨l, hl, rfl⟩ := ha
    split <;> exact ⟨⟨_, _, _, _, _, _, rfl, rfl⟩, by simp [Op.equalIn, run_underlying hd]⟩
  · cases hr
theorem eqMap_run {ρ : Rho} {h : AH} {w : World} {kt e : TypeId} {v u : AV} {a b : Value} {r : Bool} (hd : P.underlying t = some (.map kt e)) (hr : eqMapV h v u = .ok r) (ha : den ρ v = some a) (hb : den ρ u = some b) (d : Nat) :
    (∃ p q, a = .map p ∧ b = .map q) ∧ (Op.equalIn (d + 1) t a b).run P w = .ok r w := by
  unfold eqMapV at hr
  split at hr
  · cases hr
    simp only [den, Option.some.injEq] at ha hb; subst ha; subst hb
    exact ⟨⟨_, _, rfl, rfl⟩, by simp [Op.equalIn, run_underlying hd]⟩
  · cases hr
    simp only [den, Option.some.injEq] at ha; subst ha
    obtain ⟨l, hl, rfl⟩ := den_map_eq ρ hb
    exact ⟨⟨_, _, rfl, rfl⟩, by simp [Op.equalIn, run_underlying hd]⟩
  · cases hr
    simp only [den, Option.some.injEq] at hb; subst hb
    obtain ⟨l, hl, rfl⟩ := den_map_eq ρ ha
    exact ⟨⟨_, _, rfl, rfl⟩, by simp [Op.equalIn, run_underlying hd]⟩
  · cases hr
theorem den_func_eq {ρ : Rho} {f : FuncId} {l m : List AV} {a : Value} (h : den ρ (.func f l m) = some a) : ∃ xs ys, denL ρ l = some xs ∧ denL ρ m = some ys ∧ a = .func (.func f) xs.toArray ys.toArray := by
  simp only [den] at h
  split at h
  · rename_i xs ys h1 h2
    cases h
    exact ⟨xs, ys, h1, h2, rfl⟩
  · cases h
theorem eqFunc_run {ρ : Rho} {h : AH} {w : World} {ps rs : Array TypeId} {vd : Bool} {v u : AV} {a b : Value} {r : Bool} (hd : P.underlying t = some (.func ps rs vd)) (hr : eqFuncV h v u = .ok r) (ha : den ρ v = some a) (hb : den ρ u = some b) (d : Nat) :
    ((a = .nilFunc ∨ ∃ f l m, a = .func f l m) ∧ (b = .nilFunc ∨ ∃ f l m, b = .func f l m)) ∧ (Op.equalIn (d + 1) t a b).run P w = .ok r w := by
  unfold eqFuncV at hr
  split at hr
  · cases hr
    simp only [den, Option.some.injEq] at ha hb; subst ha; subst hb
    exact ⟨⟨.inl rfl, .inl rfl⟩, by simp [Op.equalIn, run_underlying hd]⟩
  · cases hr
    simp only [den, Option.some.injEq] at ha; subst ha
    obtain ⟨xs, ys, _, _, rfl⟩ := den_func_eq hb
    exact ⟨⟨.inl rfl, .inr ⟨_, _, _, rfl⟩⟩, by simp [Op.equalIn, run_underlying hd]⟩
  · cases hr
    simp only [den, Option.some.injEq] at hb; subst hb
    obtain ⟨xs, ys, _, _, rfl⟩ := den_func_eq ha
    exact ⟨⟨.inr ⟨_, _, _, rfl⟩, .inl rfl⟩, by simp [Op.equalIn, run_underlying hd]⟩
  · cases hr
theorem guard_pure {op : BinOp} {a b : Value} (h : ¬ (a = .nilIface ∧ b = .nilIface)) (h' : ∀ c c', ¬ (a = .agg c ∧ b = .agg c')) : eqGuard op t x y a b = pure () := by
  unfold eqGuard
  cases a <;> cases b <;> first
    | exact absurd ⟨rfl, rfl⟩ h
    | exact absurd ⟨rfl, rfl⟩ (h' _ _)
    | (cases op <;> rfl)
theorem eqBool_ok {neg : Bool} {yt : TypeId} (hd : P.underlying t = some .bool) (hk : E.rd2 (eqV neg eqBoolV) x y = .ok k) : KOk P X ⟨dst, .binOp (if neg then .neq else .eql) t x y yt, ty, pos, after, g⟩ E k :=
  eqlOk hk fun ρ h v u ev w b m h1 h2 h3 => by
    obtain ⟨a, rfl, h4⟩ := onBool_eq.1 h1
    obtain ⟨c, rfl, h4⟩ := onBool_eq.1 h4
    cases h4
    rw [den_bool] at h2 h3
    rw [← Option.some.inj h2, ← Option.some.inj h3]
    exact ⟨rfl, rfl, fun op => guard_pure (by simp) (by simp), by rw [equal_succ, bEq_eq]; exact eqBool_run hd w _⟩
theorem eqPtr_ok {neg : Bool} {yt e : TypeId} {n : Nat} (hd : P.underlying t = some (.pointer e)) (hn : szOf P e = .ok n) (h0 : n ≠ 0) (hk : E.rd2 (eqV neg eqPtrV) x y = .ok k) : KOk P X ⟨dst, .binOp (if neg then .neq else .eql) t x y yt, ty, pos, after, g⟩ E k :=
  eqlOk hk fun ρ h v u ev w b m h1 h2 h3 => by
    obtain ⟨⟨p, q, hp, hq⟩, h4⟩ := eqPtr_run m hd hn h0 h1 h2 h3 9999
    rw [hp, hq] at h4 ⊢
    exact ⟨rfl, rfl, fun op => guard_pure (by simp) (by simp), h4⟩
theorem eqSlc_ok {neg : Bool} {yt e : TypeId} (hd : P.underlying t = some (.slice e)) (hk : E.rd2 (eqV neg eqSlcV) x y = .ok k) : KOk P X ⟨dst, .binOp (if neg then .neq else .eql) t x y yt, ty, pos, after, g⟩ E k :=
  eqlOk hk fun ρ h v u ev w b m h1 h2 h3 => by
    obtain ⟨⟨p, n, c, q, n', c', hp, hq⟩, h4⟩ := eqSlc_run (P := P) (w := w) hd h1 h2 h3 9999
    rw [hp, hq] at h4 ⊢
    exact ⟨rfl, rfl, fun op => guard_pure (by simp) (by simp), h4⟩
theorem eqMap_ok {neg : Bool} {yt kt e : TypeId} (hd : P.underlying t = some (.map kt e)) (hk : E.rd2 (eqV neg eqMapV) x y = .ok k) : KOk P X ⟨dst, .binOp (if neg then .neq else .eql) t x y yt, ty, pos, after, g⟩ E k :=
  eqlOk hk fun ρ h v u ev w b m h1 h2 h3 => by
    obtain ⟨⟨p, q, hp, hq⟩, h4⟩ := eqMap_run (P := P) (w := w) hd h1 h2 h3 9999
    rw [hp, hq] at h4 ⊢
    exact ⟨rfl, rfl, fun op => guard_pure (by simp) (by simp), h4⟩
theorem eqFunc_ok {neg : Bool} {yt : TypeId} {ps rs : Array TypeId} {vd : Bool} (hd : P.underlying t = some (.func ps rs vd)) (hk : E.rd2 (eqV neg eqFuncV) x y = .ok k) : KOk P X ⟨dst, .binOp (if neg then .neq else .eql) t x y yt, ty, pos, after, g⟩ E k :=
  eqlOk hk fun ρ h v u ev w b m h1 h2 h3 => by
    obtain ⟨⟨hp, hq⟩, h4⟩ := eqFunc_run (P := P) (w := w) hd h1 h2 h3 9999
    rcases hp with hp | ⟨f, l, m', hp⟩ <;> rcases hq with hq | ⟨f', l', m'', hq⟩ <;> rw [hp, hq] at h4 ⊢ <;> exact ⟨rfl, rfl, fun op => guard_pure (by simp) (by simp), h4⟩
theorem eqInt_run {kk k : IntKind} {a b : Int} {u : TypeId} (hd : P.underlying u = some (.int kk)) (w : World) (d : Nat) : (Op.equalIn (d + 1) u (.int k a) (.int k b)).run P w = .ok (intEq a b) w := by
  rw [intEq_eq]
  simp [Op.equalIn, run_underlying hd]
theorem eqIface_nn {ms : Array (String × TypeId)} (hd : P.underlying t = some (.interface ms)) (w : World) (d : Nat) : (Op.equalIn (d + 1) t .nilIface .nilIface).run P w = .ok true w := by simp [Op.equalIn, run_underlying hd]
theorem eqIface_nv {ms : Array (String × TypeId)} (hd : P.underlying t = some (.interface ms)) (u : TypeId) (v : Value) (w : World) (d : Nat) : (Op.equalIn (d + 1) t .nilIface (.iface u v)).run P w = .ok false w := by simp [Op.equalIn, run_underlying hd]
theorem eqIface_vn {ms : Array (String × TypeId)} (hd : P.underlying t = some (.interface ms)) (u : TypeId) (v : Value) (w : World) (d : Nat) : (Op.equalIn (d + 1) t (.iface u v) .nilIface).run P w = .ok false w := by simp [Op.equalIn, run_underlying hd]
theorem eqIface_ne {ms : Array (String × TypeId)} (hd : P.underlying t = some (.interface ms)) {u u' : TypeId} (hu : u ≠ u') (v v' : Value) (w : World) (d : Nat) : (Op.equalIn (d + 1) t (.iface u v) (.iface u' v')).run P w = .ok false w := by
  simp [Op.equalIn, run_underlying hd, hu]
theorem eqIface_eq {ms : Array (String × TypeId)} (hd : P.underlying t = some (.interface ms)) {u : TypeId} {i : TypeInfo} (hi : P.info? u = some i) (hc : i.comparable = true) (v v' : Value) (w : World) (d : Nat) :
    (Op.equalIn (d + 1) t (.iface u v) (.iface u v')).run P w = (Op.equalIn d u v v').run P w := by
  simp only [Op.equalIn, Sem.run_bind, run_underlying hd, Result.andThen_ok, ne_eq, not_true_eq_false, if_false, run_typeInfo' hi, hc, Bool.not_true, Bool.false_eq_true]
theorem eqIface_ok {neg : Bool} {yt : TypeId} {ms : Array (String × TypeId)} (hd : P.underlying t = some (.interface ms)) (hk : E.rd2 (eqV neg (ifaceEq P (bor (isConstO x) (isConstO y)))) x y = .ok k) :
    KOk P X ⟨dst, .binOp (if neg then .neq else .eql) t x y yt, ty, pos, after, g⟩ E k :=
  eqlOk hk fun ρ h v u ev w b m h1 h2 h3 => by
    unfold ifaceEq at h1
    split at h1
    · obtain ⟨h4, h1⟩ := tst_eq.1 h1
      cases h1
      rw [den_nilIface] at h2 h3
      rw [← Option.some.inj h2, ← Option.some.inj h3]
      refine ⟨rfl, rfl, fun op => ?_, eqIface_nn hd w 9999⟩
      rw [bor_eq, Bool.or_eq_true] at h4
      rcases h4 with h4 | h4
      · cases x with
        | const c => exact eqGuard_nil_constL ..
        | _ => cases h4
      · cases y with
        | const c => exact eqGuard_nil_constR ..
        | _ => cases h4
    · cases h1
      rw [den_nilIface] at h2
      simp only [den, Option.map_eq_some_iff] at h3
      obtain ⟨z, _, hz⟩ := h3
      rw [← Option.some.inj h2, ← hz]
      exact ⟨rfl, rfl, fun op => guard_pure (by simp) (by simp), eqIface_nv hd _ _ w 9999⟩
    · cases h1
      rw [den_nilIface] at h3
      simp only [den, Option.map_eq_some_iff] at h2
      obtain ⟨z, _, hz⟩ := h2
      rw [← Option.some.inj h3, ← hz]
      exact ⟨rfl, rfl, fun op => guard_pure (by simp) (by simp), eqIface_vn hd _ _ w 9999⟩
    · rename_i tx vx tx' vx'
      simp only [den, Option.map_eq_some_iff] at h2 h3
      obtain ⟨z, hz1, hz⟩ := h2
      obtain ⟨z', hz1', hz'⟩ := h3
      rw [← hz, ← hz']
      refine ⟨rfl, rfl, fun op => guard_pure (by simp) (by simp), ?_⟩
      rw [bsel_eq] at h1
      split at h1
      · rename_i he; rw [natBeq_eq] at he
        subst he
        obtain ⟨i, hi, h1⟩ := bind_eq.1 h1
        obtain ⟨hc, h1⟩ := tst_eq.1 h1
        split at h1
        · rename_i e hu
          obtain ⟨n, hn, h1⟩ := bind_eq.1 h1
          obtain ⟨h0, h1⟩ := tst_eq.1 h1
          rw [bnot_eq, Bool.not_eq_true', natBeq_dec, decide_eq_false_iff_not] at h0
          have := (eqPtr_run m hu hn h0 h1 hz1 hz1' 9998).2
          exact (eqIface_eq hd (ofOpt_eq.1 hi) hc _ _ w 9999).trans this
        · rename_i kk hu
          obtain ⟨k, a, rfl, h5⟩ := onInt_eq.1 h1
          obtain ⟨k', b', rfl, h6⟩ := onInt_eq.1 h5
          obtain ⟨h0, h7⟩ := tst_eq.1 h6
          obtain rfl := kindEq_eq h0
          cases h7
          rw [den_int] at hz1 hz1'
          cases hz1
          cases hz1'
          exact (eqIface_eq hd (ofOpt_eq.1 hi) hc _ _ w 9999).trans (eqInt_run hu w 9998)
        · cases h1
      · rename_i he; rw [natBeq_eq] at he
        cases h1
        exact eqIface_ne hd he _ _ w 9999
    · cases h1
end
end Go.AX
/- The abstract executor: structs told alike, cell by cell: as in the model. -/
namespace Go.AX
section
variable {P : Program} {X : Ext} {E : CE} {k : OpK} {x y : Operand} {dst : Option Tmp} {ty : TypeId} {pos : String} {after : Array Edge} {g : Option (Nat × Bool)} {t : TypeId}
abbrev EqF := AV → AV → R Bool
theorem eqLs_nil (l m : List AV) : eqLs [] l m = .ok true := rfl
theorem eqLs_cons {f : EqF} {fs : List EqF} {l m : List AV} {r : Bool} (h : eqLs (f :: fs) l m = .ok r) : ∃ a l' b m' r1 r2, l = a :: l' ∧ m = b :: m' ∧ f a b = .ok r1 ∧ eqLs fs l' m' = .ok r2 ∧ r = (r1 && r2) := by
  cases l with
  | nil => cases h
  | cons a l' =>
    cases m with
    | nil => cases h
    | cons b m' =>
      have h : ((f a b).bind fun r => (eqLs fs l' m').bind fun s => R.ok (band r s)) = .ok r := h
      obtain ⟨r1, h1, h⟩ := bind_eq.1 h
      obtain ⟨r2, h2, h⟩ := bind_eq.1 h
      cases h
      exact ⟨a, l', b, m', r1, r2, rfl, rfl, h1, h2, by rw [band_eq]⟩
theorem eqLs_app : ∀ {as bs : List EqF} {l m : List AV} {r : Bool}, eqLs (as ++ bs) l m = .ok r → ∃ r1 r2, eqLs as (l.take as.length) (m.take as.length) = .ok r1 ∧ eqLs bs (l.drop as.length) (m.drop as.length) = .ok r2 ∧ r = (r1 && r2) ∧ as.length ≤ l.length ∧ as.length ≤ m.length
  | [], bs, l, m, r, h => ⟨true, r, rfl, by simpa using h, by simp, Nat.zero_le _, Nat.zero_le _⟩
  | a :: as, bs, l, m, r, h => by
    obtain ⟨x, l', y, m', r1, r2, rfl, rfl, h1, h2, rfl⟩ := eqLs_cons h
    obtain ⟨q1, q2, h3, h4, rfl, h5, h6⟩ := eqLs_app h2
    refine ⟨r1 && q1, q2, ?_, by simpa using h4, by rw [Bool.and_assoc], by simpa using h5, by simpa using h6⟩
    show ((a x y).bind fun r => (eqLs as (l'.take as.length) (m'.take as.length)).bind fun s => R.ok (band r s)) = _
    rw [h1, h3]
    simp
def LeafFit (f : EqF) : Prop := ∀ ρ a b u v, f a b = .ok true → den ρ a = some u → den ρ b = some v → ∀ n, Instr.sameBits n v u = true
theorem keyI_fit : LeafFit keyI := fun ρ a b u v h1 h2 h3 n => by
  obtain ⟨j, i, rfl, g1⟩ := onInt_eq.1 h1
  obtain ⟨j', i', rfl, g2⟩ := onInt_eq.1 g1
  obtain ⟨h4, g3⟩ := tst_eq.1 g2
  obtain rfl := kindEq_eq h4
  rw [den_int] at h2 h3
  cases h2; cases h3
  have := ok_inj g3
  rw [intEq_eq, beq_iff_eq] at this
  subst this
  cases n <;> simp [Instr.sameBits]
theorem keyS_fit : LeafFit keyS := fun ρ a b u v h1 h2 h3 n => by
  obtain ⟨j, i, rfl, g1⟩ := onStr_eq.1 h1
  obtain ⟨j', i', rfl, g2⟩ := onStr_eq.1 g1
  rw [den_str] at h2 h3
  cases h2; cases h3
  have hr := ok_inj g2
  rw [strEq_eq, beq_iff_eq] at hr
  have : ((bytesOf j' i' : ByteArray) == bytesOf j i) = true := by
    rw [beq_toListBytes, bytesOf_toList, bytesOf_toList, hr]; simp
  cases n <;> simpa only [Instr.sameBits] using this
theorem keyB_fit : LeafFit keyB := fun ρ a b u v h1 h2 h3 n => by
  obtain ⟨j, rfl, g1⟩ := onBool_eq.1 h1
  obtain ⟨j', rfl, g2⟩ := onBool_eq.1 g1
  rw [den_bool] at h2 h3
  cases h2; cases h3
  have hr := ok_inj g2
  rw [bEq_eq, beq_iff_eq] at hr
  subst hr
  cases n <;> simp [Instr.sameBits]
theorem keyI_eql {k : IntKind} (hd : P.underlying t = some (.int k)) {ρ : Rho} {a b : AV} {u v : Value} {r : Bool} (h1 : keyI a b = .ok r) (h2 : den ρ a = some u) (h3 : den ρ b = some v) (d : Nat) (w : World) : (Op.equalIn (d + 1) t u v).run P w = .ok r w := by
  obtain ⟨j, i, rfl, g1⟩ := onInt_eq.1 h1
  obtain ⟨j', i', rfl, g2⟩ := onInt_eq.1 g1
  obtain ⟨h4, g3⟩ := tst_eq.1 g2
  obtain rfl := kindEq_eq h4
  rw [den_int] at h2 h3
  cases h2; cases h3
  have := ok_inj g3
  rw [run_equalIn_int w d t j k i i' hd, ← this, intEq_eq]
theorem keyS_eql (hd : P.underlying t = some .string) {ρ : Rho} {a b : AV} {u v : Value} {r : Bool} (h1 : keyS a b = .ok r) (h2 : den ρ a = some u) (h3 : den ρ b = some v) (d : Nat) (w : World) : (Op.equalIn (d + 1) t u v).run P w = .ok r w := by
  obtain ⟨j, i, rfl, g1⟩ := onStr_eq.1 h1
  obtain ⟨j', i', rfl, g2⟩ := onStr_eq.1 g1
  rw [den_str] at h2 h3
  cases h2; cases h3
  have hr := ok_inj g2
  rw [run_equalIn_string w d t _ _ hd, bytesOf_toList, bytesOf_toList, ← hr, strEq_eq]
theorem keyB_eql (hd : P.underlying t = some .bool) {ρ : Rho} {a b : AV} {u v : Value} {r : Bool} (h1 : keyB a b = .ok r) (h2 : den ρ a = some u) (h3 : den ρ b = some v) (d : Nat) (w : World) : (Op.equalIn (d + 1) t u v).run P w = .ok r w := by
  obtain ⟨j, rfl, g1⟩ := onBool_eq.1 h1
  obtain ⟨j', rfl, g2⟩ := onBool_eq.1 g1
  rw [den_bool] at h2 h3
  cases h2; cases h3
  have hr := ok_inj g2
  rw [run_equalIn_bool w d t _ _ hd, ← hr, bEq_eq]
def Whole (P : Program) (t : TypeId) (us : List Value) (x : Value) : Prop := (aggOf P t = .ok true ∧ x = .agg us.toArray) ∨ (aggOf P t = .ok false ∧ us = [x])
theorem aggOf_struct {fs : Array Field} (hd : P.underlying t = some (.struct fs)) : aggOf P t = .ok true := by
  unfold aggOf undOf
  rw [hd]; rfl
theorem aggOf_one {d : TypeDesc} (hd : P.underlying t = some d) (h1 : ∀ fs, d ≠ .struct fs) (h2 : ∀ n e, d ≠ .array n e) : aggOf P t = .ok false := by
  unfold aggOf undOf
  rw [hd]
  show (match d with | .struct _ => R.ok true | .array _ _ => .ok true | _ => .ok false) = _
  split
  · exact absurd rfl (h1 _)
  · exact absurd rfl (h2 _ _)
  · rfl
structure LeafsOk (P : Program) (n : Nat) (t : TypeId) (ls : List EqF) : Prop where
  fit : ∀ f ∈ ls, LeafFit f
  one : aggOf P t = .ok true ∨ (aggOf P t = .ok false ∧ ls.length = 1)
  eql : ∀ {ρ : Rho} {l m : List AV} {us vs : List Value} {x y : Value} {r : Bool}, eqLs ls l m = .ok r → l.length = ls.length → m.length = ls.length → denL ρ l = some us → denL ρ m = some vs → Whole P t us x → Whole P t vs y → ∀ d w, (Op.equalIn (d + n) t x y).run P w = .ok r w
  key : ∀ {us : List Value} {x : Value}, us.length = ls.length → Whole P t us x → ∀ e d w, (Instr.checkKey e (d + n) t x).run P w = .ok () w
theorem part_whole {t : TypeId} {n : Nat} {i : Nat} {us : List Value} (ha : aggOf P t = .ok true ∨ (aggOf P t = .ok false ∧ n = 1)) (hn : szOf P t = .ok n) (hi : i + n ≤ us.length) : ∃ x, (∀ w, (part t us.toArray i).run P w = .ok x w) ∧ Whole P t ((us.drop i).take n) x := by
  rcases ha with ha | ⟨ha, rfl⟩
  · refine ⟨.agg ((us.drop i).take n).toArray, fun w => ?_, .inl ⟨ha, rfl⟩⟩
    rw [part_agg ha hn]
    congr 2
    apply Array.toList_inj.1
    simp
  · obtain ⟨x, hx⟩ : ∃ x, us[i]? = some x := ⟨us[i], List.getElem?_eq_getElem (by omega)⟩
    refine ⟨x, fun w => part_one ha _ _ (by simpa using hx) w, .inr ⟨ha, ?_⟩⟩
    apply List.ext_getElem?
    intro j
    rw [List.getElem?_take]
    cases j with
    | zero => simp [hx]
    | succ j => simp
theorem struct_eq (d n : Nat) {rec : TypeId → R (List EqF)} (hrec : ∀ t ls, rec t = .ok ls → LeafsOk P n t ls) : ∀ (fs : List Field) (i : Nat) {ls : List EqF}, leafFs rec P fs i = .ok ls →
    (∀ f ∈ ls, LeafFit f) ∧
    (∀ {ρ : Rho} {l m : List AV} {us vs : List Value} {r : Bool}, eqLs ls (l.drop i) (m.drop i) = .ok r → denL ρ l = some us → denL ρ m = some vs → ∀ w, (Op.eqFields (d + n) us.toArray vs.toArray fs).run P w = .ok r w) ∧
    (∀ {us : List Value}, i + ls.length ≤ us.length → ∀ f ∈ fs, f.name ≠ "_" ∧ ∃ x, (∀ w, (part f.type us.toArray f.offset).run P w = .ok x w) ∧ ∀ e w, (Instr.checkKey e (d + n) f.type x).run P w = .ok () w)
  | [], i, ls, h => by
    cases h
    exact ⟨fun f hf => (by cases hf), fun h1 _ _ w => (by cases h1; simp [Op.eqFields]), fun _ f hf => (by cases hf)⟩
  | f :: fs, i, ls, h => by
    obtain ⟨h0, h⟩ := tst_eq.1 h
    obtain ⟨a, h1, h⟩ := bind_eq.1 h
    obtain ⟨q, h2, h⟩ := bind_eq.1 h
    obtain ⟨h3, h⟩ := tst_eq.1 h
    obtain ⟨b, h4, h⟩ := bind_eq.1 h
    cases h
    rw [natBeq_eq, len_eq] at h3
    subst h3
    simp only [band_eq, Bool.and_eq_true, bne_iff_ne, natBeq_eq] at h0
    obtain ⟨hname, rfl⟩ := h0
    have ho := hrec _ _ h1
    obtain ⟨i1, i2, i3⟩ := struct_eq d n hrec fs _ h4
    rw [app_eq]
    refine ⟨fun g hg => by rcases List.mem_append.1 hg with hg | hg; exact ho.fit g hg; exact i1 g hg, fun {ρ l m us vs r} h5 h6 h7 w => ?_, fun {us} h5 g hg => ?_⟩
    · obtain ⟨r1, r2, h8, h9, rfl, h10, h11⟩ := eqLs_app h5
      have hl := denL_length h6
      have hm := denL_length h7
      simp only [List.length_drop] at h10 h11
      have hone : aggOf P f.type = .ok true ∨ (aggOf P f.type = .ok false ∧ a.length = 1) := ho.one
      have hpos : a.length = 0 ∨ 0 < a.length := by omega
      by_cases hle : f.offset + a.length ≤ l.length ∧ f.offset + a.length ≤ m.length
      · obtain ⟨x, x1, x2⟩ := part_whole hone h2 (us := us) (i := f.offset) (by omega)
        obtain ⟨y, y1, y2⟩ := part_whole hone h2 (us := vs) (i := f.offset) (by omega)
        have he := ho.eql h8 (by simp; omega) (by simp; omega) (denL_take _ (denL_drop _ h6)) (denL_take _ (denL_drop _ h7)) x2 y2 d w
        simp only [Op.eqFields]
        rw [if_pos hname]
        simp only [Sem.run_bind, x1, y1, Result.andThen_ok, he]
        cases r1 with
        | false => simp
        | true =>
          simp only [Bool.not_true, Bool.false_eq_true, if_false, Bool.true_and]
          exact i2 (by simpa [List.drop_drop, Nat.add_comm] using h9) h6 h7 w
      · have h0 : a = [] := by
          cases a with
          | nil => rfl
          | cons z zs => simp only [List.length_cons] at h10 h11 hle; omega
        subst h0
        rcases hone with hone | ⟨_, h⟩
        · cases h8
          have hx : ∀ us : List Value, (∀ w, (part f.type us.toArray f.offset).run P w = .ok (.agg (us.toArray.extract f.offset (f.offset + 0))) w) := fun us w => part_agg hone h2 _ w
          have hw : ∀ us : List Value, Whole P f.type [] (.agg (us.toArray.extract f.offset (f.offset + 0))) := fun us => .inl ⟨hone, by simp⟩
          have he := ho.eql (ρ := ρ) (eqLs_nil [] []) rfl rfl rfl rfl (hw us) (hw vs) d w
          simp only [Op.eqFields]
          rw [if_pos hname]
          have x1 := hx us
          have y1 := hx vs
          simp only [Nat.add_zero] at x1 y1 he
          simp only [Sem.run_bind, x1, y1, Result.andThen_ok, he]
          simp only [Bool.not_true, Bool.false_eq_true, if_false, Bool.true_and]
          exact i2 (by simpa [List.drop_drop, Nat.add_comm] using h9) h6 h7 w
        · cases h
    · rw [List.length_append] at h5
      rcases List.mem_cons.1 hg with rfl | hg
      · obtain ⟨x, x1, x2⟩ := part_whole ho.one h2 (us := us) (i := g.offset) (by omega)
        exact ⟨hname, x, x1, fun e w => ho.key (by simp; omega) x2 e d w⟩
      · exact i3 (by omega) g hg
theorem check_fields (e : Bool) (n : Nat) (cs : Array Value) : ∀ (fs : List Field) (w : World), (∀ f ∈ fs, f.name ≠ "_" ∧ ∃ x, (∀ w, (part f.type cs f.offset).run P w = .ok x w) ∧ ∀ e w, (Instr.checkKey e n f.type x).run P w = .ok () w) →
    (forIn fs PUnit.unit fun f (_ : PUnit) => (if f.name ≠ "_" then (do
      let x ← part f.type cs f.offset
      Instr.checkKey e n f.type x
      pure (ForInStep.yield PUnit.unit)) else pure (ForInStep.yield PUnit.unit) : Sem (ForInStep PUnit))).run P w = .ok PUnit.unit w
  | [], w, _ => by simp
  | f :: fs, w, h => by
    obtain ⟨h1, x, h2, h3⟩ := h f (List.mem_cons_self ..)
    have ih := check_fields e n cs fs w fun g hg => h g (List.mem_cons_of_mem _ hg)
    simp only [List.forIn_cons, Sem.run_bind]
    rw [if_pos h1]
    simp only [Sem.run_bind, h2, h3, Result.andThen_ok, Sem.run_pure]
    exact ih
theorem leafs_ok : ∀ (n : Nat) (t : TypeId) (ls : List EqF), leafs P n t = .ok ls → LeafsOk P n t ls
  | 0, t, ls, h => by cases h
  | n + 1, t, ls, h => by
    obtain ⟨kd, hd, h⟩ := bind_eq.1 h
    have hd := undOf_eq hd
    have leaf : ∀ (f : EqF), ls = [f] → LeafFit f → aggOf P t = .ok false →
        (∀ {ρ : Rho} {a b : AV} {u v : Value} {r : Bool}, f a b = .ok r → den ρ a = some u → den ρ b = some v → ∀ (d : Nat) (w : World), (Op.equalIn (d + 1) t u v).run P w = .ok r w) →
        (∀ (x : Value) (e : Bool) (d : Nat) (w : World), (Instr.checkKey e (d + 1) t x).run P w = .ok () w) → LeafsOk P (n + 1) t ls := by
      intro f hf h1 h2 h3 h4
      subst hf
      refine ⟨fun g hg => by rw [List.mem_singleton.1 hg]; exact h1, .inr ⟨h2, rfl⟩, fun {ρ l m us vs x y r} g1 g2 g3 g4 g5 g6 g7 d w => ?_, fun {us x} g1 g2 e d w => h4 x e (d + n) w⟩
      obtain ⟨a, l', b, m', r1, r2, rfl, rfl, k1, k2, rfl⟩ := eqLs_cons g1
      cases k2
      obtain ⟨z, zs, q1, q2, rfl⟩ := denL_cons_eq.1 g4
      obtain ⟨z', zs', q1', q2', rfl⟩ := denL_cons_eq.1 g5
      rcases g6 with ⟨g6, _⟩ | ⟨_, g6⟩
      · rw [h2] at g6; cases g6
      · rcases g7 with ⟨g7, _⟩ | ⟨_, g7⟩
        · rw [h2] at g7; cases g7
        · cases g6; cases g7
          rw [Bool.and_true]
          exact h3 k1 q1 q1' (d + n) w
    split at h
    · cases h
      exact leaf _ rfl keyI_fit (aggOf_one hd (fun _ h => by cases h) (fun _ _ h => by cases h)) (fun a b c d w => keyI_eql hd a b c d w) (fun x e d w => by simp [Instr.checkKey, run_underlying hd])
    · cases h
      exact leaf _ rfl keyS_fit (aggOf_one hd (fun _ h => by cases h) (fun _ _ h => by cases h)) (fun a b c d w => keyS_eql hd a b c d w) (fun x e d w => by simp [Instr.checkKey, run_underlying hd])
    · cases h
      exact leaf _ rfl keyB_fit (aggOf_one hd (fun _ h => by cases h) (fun _ _ h => by cases h)) (fun a b c d w => keyB_eql hd a b c d w) (fun x e d w => by simp [Instr.checkKey, run_underlying hd])
    · rename_i fs _
      obtain ⟨h0, h⟩ := tst_eq.1 h
      rw [bnot_eq, Bool.not_eq_true'] at h0
      have ha := aggOf_struct hd
      have hfs : P.fieldsOf t = fs := by unfold Program.fieldsOf; rw [hd]
      refine ⟨(struct_eq 0 n (leafs_ok n) _ _ h).1, .inl ha, fun {ρ l m us vs x y r} g1 g2 g3 g4 g5 g6 g7 d w => ?_, fun {us x} g1 g2 e d w => ?_⟩
      · rcases g6 with ⟨_, rfl⟩ | ⟨g6, _⟩
        · rcases g7 with ⟨_, rfl⟩ | ⟨g7, _⟩
          · rw [← Nat.add_assoc, run_equalIn_struct w (d + n) t _ _ (by rw [hfs]; exact hd) h0, hfs]
            exact (struct_eq d n (leafs_ok n) _ _ h).2.1 (by simpa using g1) g4 g5 w
          · rw [ha] at g7; cases g7
        · rw [ha] at g6; cases g6
      · rcases g2 with ⟨_, rfl⟩ | ⟨g2, _⟩
        · have hc := check_fields (P := P) e (d + n) us.toArray fs.toList w ((struct_eq d n (leafs_ok n) _ _ h).2.2 (by omega))
          rw [← Nat.add_assoc]
          simp only [Instr.checkKey, Sem.run_bind, run_underlying hd, Result.andThen_ok]
          rw [← Array.forIn_toList, hc]
          rfl
        · rw [ha] at g2; cases g2
    · cases h
theorem fit_all : ∀ {ls : List EqF} {ρ : Rho} {l m : List AV} {us vs : List Value}, (∀ f ∈ ls, LeafFit f) → eqLs ls l m = .ok true → l.length = ls.length → m.length = ls.length → denL ρ l = some us → denL ρ m = some vs → ∀ n, ((vs.zip us).all fun (x, y) => Instr.sameBits n x y) = true
  | [], ρ, l, m, us, vs, _, _, h2, h3, h4, h5, n => by
    cases l with
    | nil => cases h4; simp
    | cons a l => cases h2
  | f :: ls, ρ, l, m, us, vs, h0, h1, h2, h3, h4, h5, n => by
    obtain ⟨a, l', b, m', r1, r2, rfl, rfl, k1, k2, k3⟩ := eqLs_cons h1
    have k3 := k3.symm
    rw [Bool.and_eq_true] at k3
    obtain ⟨rfl, rfl⟩ := k3
    obtain ⟨z, zs, q1, q2, rfl⟩ := denL_cons_eq.1 h4
    obtain ⟨z', zs', q1', q2', rfl⟩ := denL_cons_eq.1 h5
    rw [List.zip_cons_cons, List.all_cons]
    show (Instr.sameBits n z' z && _) = true
    rw [h0 f (List.mem_cons_self ..) ρ a b z z' k1 q1 q1' n, Bool.true_and]
    exact fit_all (fun g hg => h0 g (List.mem_cons_of_mem _ hg)) k2 (by simpa using h2) (by simpa using h3) q2 q2' n
theorem keyA_ok {n : Nat} {ls : List EqF} {ρ : Rho} {a b : AV} {u v : Value} {r : Bool} (hl : leafs P n t = .ok ls) (ha : aggOf P t = .ok true) (h1 : keyA ls a b = .ok r) (h2 : den ρ a = some u) (h3 : den ρ b = some v) :
    (∃ xs ys, u = .agg xs ∧ v = .agg ys) ∧ (∀ d w, (Op.equalIn (d + n) t u v).run P w = .ok r w) ∧ (r = true → ∀ n, Instr.sameBits (n + 1) v u = true) ∧ ∀ e d w, (Instr.checkKey e (d + n) t u).run P w = .ok () w := by
  unfold keyA at h1
  obtain ⟨l, rfl, h1⟩ := onAgg_eq.1 h1
  have h1 : onAgg 118 (fun m => tst 118 (band (Nat.beq (len l) (len ls)) (Nat.beq (len m) (len ls))) (eqLs ls l m)) b = .ok r := h1
  obtain ⟨m, rfl, h1⟩ := onAgg_eq.1 h1
  obtain ⟨h4, h1⟩ := tst_eq.1 h1
  simp only [band_eq, Bool.and_eq_true, natBeq_eq, len_eq] at h4
  obtain ⟨_, us, h5, rfl⟩ := den_agg_eq h2
  obtain ⟨_, vs, h6, rfl⟩ := den_agg_eq h3
  have ho := leafs_ok n t ls hl
  have l1 := denL_length h5
  have l2 := denL_length h6
  refine ⟨⟨_, _, rfl, rfl⟩, ho.eql h1 h4.1 h4.2 h5 h6 (.inl ⟨ha, rfl⟩) (.inl ⟨ha, rfl⟩), fun hr k => ?_, ho.key (by omega) (.inl ⟨ha, rfl⟩)⟩
  subst hr
  have hs := fit_all ho.fit h1 h4.1 h4.2 h5 h6 k
  simp only [Instr.sameBits, Bool.and_eq_true, beq_iff_eq, List.size_toArray]
  exact ⟨by omega, hs⟩
theorem eqAgg_run {n : Nat} {ls : List EqF} {fs : Array Field} {ρ : Rho} {h : AH} {a b : AV} {u v : Value} {r : Bool} (hd : P.underlying t = some (.struct fs)) (hl : leafs P n t = .ok ls) (hn : n ≤ 10000) (h1 : eqAggV ls h a b = .ok r) (h2 : den ρ a = some u) (h3 : den ρ b = some v) :
    (∃ xs ys, u = .agg xs ∧ v = .agg ys) ∧ ∀ w, (Op.equal t u v).run P w = .ok r w := by
  obtain ⟨a1, a2, _, _⟩ := keyA_ok hl (aggOf_struct hd) h1 h2 h3
  refine ⟨a1, fun w => ?_⟩
  have := a2 (10000 - n) w
  rw [Nat.sub_add_cancel hn] at this
  exact this
theorem eqAgg_ok {neg : Bool} {n : Nat} {ls : List EqF} {fs : Array Field} {yt : TypeId} (hd : P.underlying t = some (.struct fs)) (hg : P.eqGuardType P.depth t = false) (hl : leafs P n t = .ok ls) (hn : n ≤ 10000) (hk : E.rd2 (eqV neg (eqAggV ls)) x y = .ok k) :
    KOk P X ⟨dst, .binOp (if neg then .neq else .eql) t x y yt, ty, pos, after, g⟩ E k :=
  rd2_ok hk (by simp [Op.operands]) (by simp [Op.operands]) fun ρ h v u r ev w m h1 h2 h3 => by
    obtain ⟨b, h4, h1⟩ := bind_eq.1 h1
    cases h1
    obtain ⟨⟨xs, ys, e1, e2⟩, a2⟩ := eqAgg_run hd hl hn h4 h2 h3
    refine ⟨_, den_bool _ _, ?_⟩
    have a2 := a2 w
    rw [e1, e2] at a2
    simp only [execOp, Sem.run_bind, e1, e2, run_eqGuard_agg w _ t x y xs ys hg, Result.andThen_ok]
    cases neg
    · simp [run_eql_struct, show (Op.equalIn 10000 t (.agg xs) (.agg ys)).run P w = .ok b w from a2]
    · simp [run_neq_struct, show (Op.equalIn 10000 t (.agg xs) (.agg ys)).run P w = .ok b w from a2]
end
end Go.AX
/- The abstract executor: maps, unsafe pointers, stores: they are the model's. -/
namespace Go.AX
section
variable {P : Program} {X : Ext} {E : CE} {k : OpK} {x y : Operand} {dst : Option Tmp} {ty : TypeId} {pos : String} {after : Array Edge} {g : Option (Nat × Bool)} {t : TypeId}

structure KeyFits (P : Program) (kt : TypeId) (eq : AV → AV → R Bool) : Prop where
  ex : ∃ d, P.underlying kt = some d ∧ (∀ ρ a b r u v, eq a b = .ok r → den ρ a = some u → den ρ b = some v → (∀ q, Instr.sameNow d u v = some q → q = r) ∧ (∀ w, (Op.equal kt u v).run P w = .ok r w) ∧ (r = true → Instr.sameBits 10000 v u = true)) ∧
    (∀ ρ a r v, eq a a = .ok r → den ρ a = some v → ∀ (w : World) (e : Bool), (Instr.checkKey e 10000 kt v).run P w = .ok () w)
theorem keyOf_fits {kt : TypeId} {eq : AV → AV → R Bool} (h : keyOf P kt = .ok eq) : KeyFits P kt eq := by
  obtain ⟨d, hd, h⟩ := bind_eq.1 h
  have hd := undOf_eq hd
  refine ⟨⟨d, hd, ?_⟩⟩
  split at h
  · cases h
    refine ⟨fun ρ a b r u v h1 h2 h3 => ⟨?_, fun w => keyI_eql hd h1 h2 h3 9999 w, fun hr => keyI_fit ρ a b u v (hr ▸ h1) h2 h3 _⟩, fun ρ a r v h1 h2 w e => (show ∀ n, (Instr.checkKey e (n + 1) kt v).run P w = .ok () w from fun n => by simp [Instr.checkKey, run_underlying hd]) 9999⟩
    obtain ⟨j, n, rfl, g1⟩ := onInt_eq.1 h1
    obtain ⟨j', n', rfl, g2⟩ := onInt_eq.1 g1
    obtain ⟨h4, g3⟩ := tst_eq.1 g2
    obtain rfl := kindEq_eq h4
    cases g3
    rw [den_int] at h2 h3
    cases h2; cases h3
    intro q hq
    simp only [Instr.sameNow, if_true, Option.some.injEq] at hq
    rw [← hq, intEq_eq]
  · cases h
    refine ⟨fun ρ a b r u v h1 h2 h3 => ⟨?_, fun w => keyS_eql hd h1 h2 h3 9999 w, fun hr => keyS_fit ρ a b u v (hr ▸ h1) h2 h3 _⟩, fun ρ a r v h1 h2 w e => (show ∀ n, (Instr.checkKey e (n + 1) kt v).run P w = .ok () w from fun n => by simp [Instr.checkKey, run_underlying hd]) 9999⟩
    obtain ⟨j, n, rfl, g1⟩ := onStr_eq.1 h1
    obtain ⟨j', n', rfl, g2⟩ := onStr_eq.1 g1
    cases g2
    rw [den_str] at h2 h3
    cases h2; cases h3
    intro q hq
    simp only [Instr.sameNow, Option.some.injEq] at hq
    rw [← hq, beq_toListBytes, bytesOf_toList, bytesOf_toList, strEq_eq]
  · cases h
    refine ⟨fun ρ a b r u v h1 h2 h3 => ⟨?_, fun w => keyB_eql hd h1 h2 h3 9999 w, fun hr => keyB_fit ρ a b u v (hr ▸ h1) h2 h3 _⟩, fun ρ a r v h1 h2 w e => (show ∀ n, (Instr.checkKey e (n + 1) kt v).run P w = .ok () w from fun n => by simp [Instr.checkKey, run_underlying hd]) 9999⟩
    obtain ⟨j, rfl, g1⟩ := onBool_eq.1 h1
    obtain ⟨j', rfl, g2⟩ := onBool_eq.1 g1
    cases g2
    rw [den_bool] at h2 h3
    cases h2; cases h3
    intro q hq
    simp only [Instr.sameNow, Option.some.injEq] at hq
    rw [← hq, bEq_eq]
  · obtain ⟨ls, hl, h⟩ := bind_eq.1 h
    cases h
    have ha := aggOf_struct hd
    refine ⟨fun ρ a b r u v h1 h2 h3 => ?_, fun ρ a r v h1 h2 w e => (keyA_ok hl ha h1 h2 h2).2.2.2 e 9992 w⟩
    obtain ⟨⟨xs, ys, rfl, rfl⟩, a2, a3, _⟩ := keyA_ok hl ha h1 h2 h3
    exact ⟨fun q hq => (by simp [Instr.sameNow] at hq), fun w => a2 9992 w, fun hr => a3 hr 9999⟩
  · cases h
theorem findA_cons (eq : AV → AV → R Bool) (k : AV) (e : AE) (es : List AE) (i : Nat) : findA eq k (e :: es) i = (eq k e.key).bind fun b => bsel b (.ok (some (i, e.val))) (findA eq k es (i + 1)) := rfl
theorem findNow_cons (d : TypeDesc) (kv : Value) (m : MapEntry) (xs : List MapEntry) (i : Nat) {q : Option (Nat × Value)} (h : Instr.findNow d kv (m :: xs) i = some q) : (Instr.sameNow d kv m.key = some true ∧ q = some (i, m.val)) ∨ (Instr.sameNow d kv m.key = some false ∧ Instr.findNow d kv xs (i + 1) = some q) := by
  simp only [Instr.findNow] at h
  split at h
  · rename_i h1; cases h; exact .inl ⟨h1, rfl⟩
  · rename_i h1; exact .inr ⟨h1, h⟩
  · cases h
theorem findA_go {ρ : Rho} {kt : TypeId} {eq : AV → AV → R Bool} {d : TypeDesc} {ka : AV} {kv : Value} (hf : ∀ ρ a b r u v, eq a b = .ok r → den ρ a = some u → den ρ b = some v → (∀ q, Instr.sameNow d u v = some q → q = r) ∧ (∀ w, (Op.equal kt u v).run P w = .ok r w) ∧ (r = true → Instr.sameBits 10000 v u = true))
    (hk : den ρ ka = some kv) : ∀ (es : List AE) (xs : List MapEntry) (i : Nat) (r : Option (Nat × AV)), EntriesOk ρ es xs → findA eq ka es i = .ok r →
      match r with
      | none => (∀ q, Instr.findNow d kv xs i = some q → q = none) ∧ ∀ w, (Instr.findAsking kt kv xs i).run P w = .ok none w
      | some (j, v) => ∃ e m, i ≤ j ∧ es[j - i]? = some e ∧ e.val = v ∧ xs[j - i]? = some m ∧ ((∀ q, Instr.findNow d kv xs i = some q → q = some (j, m.val)) ∧ ∀ w, (Instr.findAsking kt kv xs i).run P w = .ok (some (j, m.val)) w) ∧ den ρ v = some m.val ∧ Instr.sameBits 10000 m.key kv = true
  | [], [], i, r, _, h => by have h : R.ok none = R.ok r := h; cases h; exact ⟨fun q hq => (by cases hq; rfl), fun w => (by simp [Instr.findAsking])⟩
  | [], _ :: _, i, r, he, h => by have := he.1; simp at this
  | e :: es, [], i, r, he, h => by have := he.1; simp at this
  | e :: es, m :: xs, i, r, he, h => by
    rw [findA_cons] at h
    obtain ⟨b, h1, h⟩ := bind_eq.1 h
    obtain ⟨g1, g2, g3⟩ := he.2 0 e m rfl rfl
    obtain ⟨h2, h2', h3⟩ := hf ρ ka e.key b kv m.key h1 hk g1
    rw [bsel_eq] at h
    cases b with
    | true =>
      rw [if_pos rfl] at h
      cases h
      refine ⟨e, m, Nat.le_refl _, by simp, rfl, by simp, ⟨fun q hq => ?_, fun w => ?_⟩, g2, h3 rfl⟩
      · rcases findNow_cons _ _ _ _ _ hq with ⟨_, a⟩ | ⟨a, _⟩
        · exact a
        · cases h2 _ a
      · simp [Instr.findAsking, h2']
    | false =>
      rw [if_neg (by simp)] at h
      have he' : EntriesOk ρ es xs := ⟨by simpa using he.1, fun j e' m' a b => he.2 (j + 1) e' m' (by simpa using a) (by simpa using b)⟩
      have := findA_go (kt := kt) hf hk es xs (i + 1) r he' h
      cases r with
      | none =>
        simp only at this ⊢
        refine ⟨fun q hq => ?_, fun w => by simp [Instr.findAsking, h2', this.2]⟩
        rcases findNow_cons _ _ _ _ _ hq with ⟨a, _⟩ | ⟨_, a⟩
        · cases h2 _ a
        · exact this.1 q a
      | some p =>
        obtain ⟨j, v⟩ := p
        obtain ⟨e', m', a1, a2, a3, a4, a5, a6, a7⟩ := this
        have e1 : j - i = (j - (i + 1)) + 1 := by omega
        refine ⟨e', m', by omega, by rw [e1]; simpa using a2, a3, by rw [e1]; simpa using a4, ⟨fun q hq => ?_, fun w => by simp [Instr.findAsking, h2', a5.2]⟩, a6, a7⟩
        rcases findNow_cons _ _ _ _ _ hq with ⟨a, _⟩ | ⟨_, a⟩
        · cases h2 _ a
        · exact a5.1 q a
theorem findA_ok {ρ : Rho} {kt : TypeId} {eq : AV → AV → R Bool} {d : TypeDesc} {ka : AV} {kv : Value} (hd : P.underlying kt = some d) (hf : ∀ ρ a b r u v, eq a b = .ok r → den ρ a = some u → den ρ b = some v → (∀ q, Instr.sameNow d u v = some q → q = r) ∧ (∀ w, (Op.equal kt u v).run P w = .ok r w) ∧ (r = true → Instr.sameBits 10000 v u = true))
    (hk : den ρ ka = some kv) (es : List AE) (xs : List MapEntry) (r : Option (Nat × AV)) (he : EntriesOk ρ es xs) (h : findA eq ka es 0 = .ok r) :
      match r with
      | none => ∀ w, (Instr.findKey kt kv xs).run P w = .ok none w
      | some (j, v) => ∃ e m, 0 ≤ j ∧ es[j - 0]? = some e ∧ e.val = v ∧ xs[j - 0]? = some m ∧ (∀ w, (Instr.findKey kt kv xs).run P w = .ok (some (j, m.val)) w) ∧ den ρ v = some m.val ∧ Instr.sameBits 10000 m.key kv = true := by
  have key : ∀ q, (∀ p, Instr.findNow d kv xs 0 = some p → p = q) → (∀ w, (Instr.findAsking kt kv xs 0).run P w = .ok q w) → ∀ w, (Instr.findKey kt kv xs).run P w = .ok q w := by
    intro q h1 h2 w
    simp only [Instr.findKey, Sem.run_bind, run_underlying hd, Result.andThen_ok]
    split
    · rename_i p hp
      rw [← h1 p hp, Sem.run_pure]
    · exact h2 w
  have := findA_go hf hk es xs 0 r he h
  cases r with
  | none => exact key none this.1 this.2
  | some p =>
    obtain ⟨j, v⟩ := p
    obtain ⟨e', m', a1, a2, a3, a4, a5, a6, a7⟩ := this
    exact ⟨e', m', a1, a2, a3, a4, key _ a5.1 a5.2, a6, a7⟩
theorem lookA_run {ρ : Rho} {h : AH} {w : World} {kt et : TypeId} {eq : AV → AV → R Bool} {ma ka : AV} {mv kv : Value} {r : Option AV} {z : AV} (m : Mem P ρ h w) (hd : P.underlying t = some (.map kt et)) (hk : KeyFits P kt eq) (hz : zeroOf P et = .ok z)
    (hm : den ρ ma = some mv) (hkv : den ρ ka = some kv) (hr : lookA eq h ma ka = .ok r) : ∃ v, den ρ (r.getD z) = some v ∧ ∀ ok, (Instr.lookup t mv kv ok).run P w = .ok (if ok then .tuple #[v, .bool r.isSome] else v) w := by
  obtain ⟨d, hd', hf, hck⟩ := hk.ex
  obtain ⟨zv, hz1, hz2⟩ := zeroOf_ok hz
  unfold lookA at hr
  obtain ⟨_, hself, hr⟩ := bind_eq.1 hr
  have hck' : ∀ e, (Instr.checkKey e 10000 kt kv).run P w = .ok () w := fun e => hck ρ ka _ kv hself hkv w e
  split at hr
  · cases hr
    simp only [den, Option.some.injEq] at hm
    subst hm
    refine ⟨zv, hz2 ρ, fun ok => ?_⟩
    simp only [Instr.lookup, Sem.run_bind, run_underlying hd, Result.andThen_ok, Sem.run_pure, hck', Instr.findKey, run_underlying hd', Instr.findNow, hz1, Option.isSome_none]
  · obtain ⟨o, h1, hr⟩ := bind_eq.1 hr
    obtain ⟨es, c, rfl, hr⟩ := onMapO_eq.1 hr
    obtain ⟨q, h2, hr⟩ := bind_eq.1 hr
    cases hr
    obtain ⟨lc, hl, rfl⟩ := den_map_eq ρ hm
    obtain ⟨xs, g1, g2⟩ := map_mem m hl (Q.at_eq.1 h1)
    have hfa := findA_ok hd' hf hkv es xs.toList q g2 h2
    cases q with
    | none =>
      simp only at hfa
      refine ⟨zv, hz2 ρ, fun ok => ?_⟩
      simp only [Instr.lookup, Sem.run_bind, run_underlying hd, Result.andThen_ok, Sem.run_pure, run_getObj_map g1, hck', hfa, hz1, Option.map_none, Option.isSome_none]
    | some p =>
      obtain ⟨j, v⟩ := p
      obtain ⟨e, me, _, _, _, _, a5, a6, _⟩ := hfa
      refine ⟨me.val, a6, fun ok => ?_⟩
      simp only [Instr.lookup, Sem.run_bind, run_underlying hd, Result.andThen_ok, Sem.run_pure, run_getObj_map g1, hck', a5, Option.map_some, Option.isSome_some]
  · cases hr
theorem look_ok {kt et : TypeId} {eq : AV → AV → R Bool} {z : AV} (hd : P.underlying t = some (.map kt et)) (hkf : KeyFits P kt eq) (hz : zeroOf P et = .ok z) (hk : E.rd2 (lookV eq z) x y = .ok k) : KOk P X ⟨dst, .lookup t x y false, ty, pos, after, g⟩ E k :=
  rd2_ok hk (by simp [Op.operands]) (by simp [Op.operands]) fun ρ h v u r ev w m h1 h2 h3 => by
    obtain ⟨q, h4, h1⟩ := bind_eq.1 h1
    cases h1
    obtain ⟨v', a1, a2⟩ := lookA_run m hd hkf hz h2 h3 h4
    refine ⟨v', a1, ?_⟩
    simp only [execOp]
    exact exec_v (a2 false)
theorem lookOk_ok {kt et : TypeId} {eq : AV → AV → R Bool} {z : AV} (hd : P.underlying t = some (.map kt et)) (hkf : KeyFits P kt eq) (hz : zeroOf P et = .ok z) (hk : E.rd2 (lookOkV eq z) x y = .ok k) : KOk P X ⟨dst, .lookup t x y true, ty, pos, after, g⟩ E k :=
  rd2_ok hk (by simp [Op.operands]) (by simp [Op.operands]) fun ρ h v u r ev w m h1 h2 h3 => by
    obtain ⟨q, h4, h1⟩ := bind_eq.1 h1
    cases h1
    obtain ⟨v', a1, a2⟩ := lookA_run m hd hkf hz h2 h3 h4
    refine ⟨.tuple #[v', .bool q.isSome], ?_, ?_⟩
    · cases q with
      | none => exact den_tuple (denL_cons_eq.2 ⟨v', [.bool false], a1, denL_cons_eq.2 ⟨.bool false, [], den_bool _ _, rfl, rfl⟩, rfl⟩)
      | some q => exact den_tuple (denL_cons_eq.2 ⟨v', [.bool true], a1, denL_cons_eq.2 ⟨.bool true, [], den_bool _ _, rfl, rfl⟩, rfl⟩)
    · simp only [execOp]
      exact exec_v (a2 true)

theorem viewAt_run {w : World} {r : Nat} {cs : Array Value} {e : TypeId} {f : Nat × Nat} (h : w.heap[r]? = some (.cells cs e f)) : (viewAt r).run P w = .ok none w := by
  simp only [viewAt, Sem.run_bind, shape_run h, Result.andThen_ok, Option.isSome_some, if_true, Sem.run_pure]
theorem seenAt_run {w : World} {cb o : Nat} {cs : Array Value} {e : TypeId} {f : Nat × Nat} (h : w.heap[cb]? = some (.cells cs e f)) : (Conv.seenAt ⟨cb, o, none⟩).run P w = .ok ⟨cb, o, none⟩ w := by
  simp only [Conv.seenAt, Sem.run_bind, viewAt_run h, Result.andThen_ok, Sem.run_pure]
theorem cellsIn_run {w : World} {r : Nat} {cs : Array Value} {e : TypeId} {f : Nat × Nat} (h : w.heap[r]? = some (.cells cs e f)) : (cellsIn r).run P w = .ok (some cs.size) w := by
  simp only [cellsIn, Sem.run_bind, shape_run h, Result.andThen_ok, Sem.run_pure]
theorem toUnsafe_ok {s d e : TypeId} {n : Nat} (hs : P.underlying s = some (.pointer e)) (hd : P.underlying d = some .unsafePointer) (hn : szOf P e = .ok n) (h0 : n ≠ 0) (hk : E.rd1 toUnsafeV x = .ok k) : KOk P X ⟨dst, .convert s d x, ty, pos, after, g⟩ E k :=
  rd1_ok hk (by simp [Op.operands]) fun ρ h v u ev w m h1 h2 => by
    unfold toUnsafeV at h1
    split at h1
    · cases h1
      rw [den_nilp] at h2
      refine ⟨_, den_nilp ρ, ?_⟩
      simp only [execOp, ← Option.some.inj h2]
      refine exec_v ?_
      simp only [convert, Sem.run_bind, run_underlying hs, run_underlying hd, Result.andThen_ok, Conv.unsafePointer, Sem.run_pure]
    · obtain ⟨o, h3, h1⟩ := bind_eq.1 h1
      obtain ⟨lc, hl, hx⟩ := den_ptr_eq ρ h2
      have ho := m.obj _ o lc (Q.at_eq.1 h3) hl
      have fin : ∀ (off : Nat) (cs : Array Value) (e' : TypeId) (f : Nat × Nat), ev x = .pointer (some ⟨lc.cb, lc.co + off, none⟩) → w.heap[lc.cb]? = some (.cells cs e' f) → lc.co + off < cs.size →
          (execOp ev ⟨dst, .convert s d x, ty, pos, after, g⟩).run P w = .ok (.value (.pointer (some ⟨lc.cb, lc.co + off, none⟩))) w := by
        intro off cs e' f hx hb hlt
        simp only [execOp, hx]
        refine exec_v ?_
        have e1 : decide (lc.co + off ≥ cs.size) = false := by simp; omega
        have e2 : decide (n = 0) = false := by simpa using h0
        simp only [convert, Sem.run_bind, run_underlying hs, run_underlying hd, Result.andThen_ok, Conv.unsafePointer, seenAt_run hb, cellsIn_run hb, run_sizeOf' hn, e1, e2, Bool.false_and, Bool.or_self, Bool.false_eq_true, if_false, Sem.run_pure]
      rcases onBox_eq.1 h1 with ⟨e', ro, c, rfl, h4⟩ | ⟨e', ro, op, es, size, fr, c, rfl, h4⟩
      · obtain ⟨h5, h4⟩ := tst_eq.1 h4
        cases h4
        rw [natBlt_eq, len_eq] at h5
        obtain ⟨cs, e'', z, g1, g2, _⟩ := ho
        exact ⟨_, h2, by rw [hx]; exact fin _ cs e'' _ hx g1 (by omega)⟩
      · obtain ⟨h5, h4⟩ := tst_eq.1 h4
        cases h4
        rw [natBlt_eq] at h5
        obtain ⟨cs, lo, hi, g1, g2, _⟩ := ho
        exact ⟨_, h2, by rw [hx]; exact fin _ cs _ _ hx g1 (by omega)⟩
    · cases h1
theorem variablesAt_run {w : World} {cb o : Nat} {cs : Array Value} {e : TypeId} {f : Nat × Nat} (h : w.heap[cb]? = some (.cells cs e f)) (u : TypeId) (n : Nat) : (variablesAt ⟨cb, o, none⟩ u n).run P w = .ok (liesAt P P.depth e (cs.size / P.cellsOf e) o u n) w := by
  simp only [variablesAt, Sem.run_bind, run_program, Result.andThen_ok, shape_run h, Sem.run_pure]
theorem ofUnsafe_ok {s d e : TypeId} {n : Nat} (hs : P.underlying s = some .unsafePointer) (hd : P.underlying d = some (.pointer e)) (hn : szOf P e = .ok n) (hk : E.rd1 (ofUnsafeV (lies P e)) x = .ok k) : KOk P X ⟨dst, .convert s d x, ty, pos, after, g⟩ E k :=
  rd1_ok hk (by simp [Op.operands]) fun ρ h v u ev w m h1 h2 => by
    unfold ofUnsafeV at h1
    split at h1
    · cases h1
      rw [den_nilp] at h2
      refine ⟨_, den_nilp ρ, ?_⟩
      simp only [execOp, ← Option.some.inj h2]
      refine exec_v ?_
      simp only [convert, Sem.run_bind, run_underlying hs, run_underlying hd, Result.andThen_ok, Conv.unsafePointer, Sem.run_pure]
    · rename_i b off
      obtain ⟨o, h3, h1⟩ := bind_eq.1 h1
      obtain ⟨lc, hl, hx⟩ := den_ptr_eq ρ h2
      have ho := m.obj _ o lc (Q.at_eq.1 h3) hl
      rcases onBox_eq.1 h1 with ⟨e', ro, c, rfl, h4⟩ | ⟨e', ro, op, es, size, fr, c, rfl, h4⟩
      · obtain ⟨h5, h4⟩ := tst_eq.1 h4
        cases h4
        rw [band_eq, Bool.and_eq_true, bnot_eq, Bool.not_eq_true'] at h5
        obtain ⟨cs, e'', z, g1, g2, g3, _⟩ := ho
        obtain ⟨rfl, hco, hsz⟩ := g3.1 h5.1
        refine ⟨_, h2, ?_⟩
        simp only [execOp, hx]
        refine exec_v ?_
        have h6 : liesAt P P.depth e'' (cs.size / P.cellsOf e'') (lc.co + off) e 1 = true := by
          rw [hsz, hco, Nat.zero_add]
          have := h5.2
          rw [len_eq] at this
          exact this
        simp only [convert, Sem.run_bind, run_underlying hs, run_underlying hd, Result.andThen_ok, Conv.unsafePointer, seenAt_run g1, run_sizeOf' hn, variablesAt_run g1, h6]
        split
        · rfl
        · rename_i h7; exact absurd (by simp) h7
      · cases h4
    · cases h1

theorem storeO_mem {ρ : Rho} {h : AH} {w : World} {b : Id} {off : Nat} {vs : List AV} {ys : List Value} {lc : Loc} {o o' : AO} (m : Mem P ρ h w) (hl : ρ b = some lc) (hb : Q.get b h.tr = some o) (hh : storeO off vs o = .ok o') (hv : denL ρ vs = some ys) (ha : vs.all oneV = true) :
    ∃ w', (storeCells ⟨lc.cb, lc.co + off, none⟩ ys 0).run P w = .ok () w' ∧ Mem P ρ (h.put b o') w' ∧ Step ρ h w ρ (h.put b o') w' := by
  have ho := m.obj b o lc hb hl
  have hone : ∀ v ∈ ys, Value.oneCell v = true := by
    intro v hvm
    obtain ⟨i, hi⟩ := List.getElem?_of_mem hvm
    have hlt : i < vs.length := by rw [← denL_length hv]; exact (List.getElem?_eq_some_iff.1 hi).1
    obtain ⟨y, hy, hd⟩ := denL_get hv i vs[i] (by simp [hlt])
    rw [hi] at hy; cases hy
    exact den_one (all_get ha (List.getElem?_eq_getElem hlt)) hd
  have hlen := denL_length hv
  rcases onBox_eq.1 hh with ⟨e, ro, c, rfl, h4⟩ | ⟨e, ro, op, es, size, fr, c, rfl, h4⟩
  · obtain ⟨h5, h4⟩ := tst_eq.1 h4
    cases h4
    rw [band_eq, Bool.and_eq_true, bnot_eq, Bool.not_eq_true', natBle_eq, len_eq, len_eq] at h5
    obtain ⟨h5, h6⟩ := h5
    subst h5
    obtain ⟨cs, e', z, g1, g2, g3, g4⟩ := ho
    obtain ⟨w', cs', a1, a2, a3, a4, a5⟩ := storeCells_run (P := P) lc.cb ys w (lc.co + off) 0 cs e' z z g1 (by omega) (fun j _ => by omega) hone
    refine ⟨w', a1, m.put hb hl rfl a2 ⟨cs', e', z, a3, by rw [over_length vs off c h6, a4]; exact g2, ⟨fun hr => ?_, fun hr => ?_⟩, fun i v hv' => ?_⟩⟩
    · rw [over_length vs off c h6, a4]; exact g3.1 hr
    · rw [over_length vs off c h6] at hr ⊢; rw [a4]; exact g3.2 hr
    · simp only at hv'
      rw [over_get vs off c h6] at hv'
      rw [a5]
      split at hv'
      · rename_i hi
        obtain ⟨y, hy, hd⟩ := denL_get hv _ _ hv'
        refine ⟨by rw [over_length vs off c h6]; omega, all_get ha hv', y, ?_, hd⟩
        rw [if_pos (by omega)]
        rw [show lc.co + i - (lc.co + off + 0) = i - off by omega]
        exact hy
      · rename_i hi
        obtain ⟨q0, q1, y, q2, q3⟩ := g4 i v hv'
        exact ⟨by rw [over_length vs off c h6]; exact q0, q1, y, by rw [if_neg (by omega)]; exact q2, q3⟩
  · obtain ⟨h5, h4⟩ := tst_eq.1 h4
    obtain ⟨c', h6, h4⟩ := bind_eq.1 h4
    cases h4
    rw [band_eq, Bool.and_eq_true, bnot_eq, Bool.not_eq_true'] at h5
    obtain ⟨h5, h7⟩ := h5
    subst h5
    obtain ⟨l, h8, h6⟩ := bind_eq.1 h6
    obtain ⟨h9, h6⟩ := tst_eq.1 h6
    cases h6
    rw [band_eq, band_eq, Bool.and_eq_true, Bool.and_eq_true, natBle_eq, natBeq_eq, natBlt_eq, len_eq, len_eq] at h9
    obtain ⟨h0, h9, h10⟩ := h9
    have h8 := Q.at_eq.1 h8
    obtain ⟨cs, lo, hi, g1, g2, g3, g4, g5⟩ := ho
    have hdm := Nat.div_add_mod' off es
    have hidx : ∀ j, off % es + j < es → (off + j) / es = off / es ∧ (off + j) % es = off % es + j := by
      intro j hj
      have e : off + j = (off % es + j) + off / es * es := by omega
      rw [e, Nat.add_mul_div_right _ _ (by omega), Nat.div_eq_of_lt hj, Nat.zero_add, Nat.add_mul_mod_self_right, Nat.mod_eq_of_lt hj]
      exact ⟨rfl, rfl⟩
    -- the cells are there
    have hthere : ∀ j, j < vs.length → off + j < size ∧ lc.co + (off + j) < cs.size := by
      intro j hj
      have hlt : off % es + j < es := by omega
      obtain ⟨e1, e2⟩ := hidx j hlt
      have hr : rowGet es c (off + j) = some (l[off % es + j]'(by omega)) := by
        unfold rowGet
        rw [e1, e2, h8]
        simp
      obtain ⟨q1, _, y, q2, _⟩ := g5 _ _ hr
      exact ⟨q1, (Array.getElem?_eq_some_iff.1 q2).1⟩
    have hnf : ∀ j, j < ys.length → ¬ (lo ≤ lc.co + off + 0 + j ∧ lc.co + off + 0 + j < hi) := by
      intro j hj
      have ht := hthere j (by omega)
      cases fr with
      | clean => have g4 : lo = hi := g4; omega
      | range a b' =>
        have g4 : lo < hi → lc.co + a ≤ lo ∧ hi ≤ lc.co + b' := g4.2
        have h7 : bor (Nat.ble (off + len vs) a) (Nat.ble b' off) = true := h7
        rw [bor_eq, Bool.or_eq_true, natBle_eq, natBle_eq, len_eq] at h7
        intro hc
        have := g4 (by omega)
        omega
      | past => exact fun hc => g4 (off + j) (by unfold extOf; split <;> omega) (by omega)
    have hroom : lc.co + off + 0 + ys.length ≤ cs.size := by
      have := hthere (vs.length - 1) (by omega)
      omega
    obtain ⟨w', cs', a1, a2, a3, a4, a5⟩ := storeCells_run (P := P) lc.cb ys w (lc.co + off) 0 cs e lo hi g1 hroom hnf hone
    refine ⟨w', a1, m.put hb hl rfl a2 ⟨cs', lo, hi, a3, by rw [a4]; exact g2, by rw [a4]; exact g3, g4, fun i v hv' => ?_⟩⟩
    unfold rowGet at hv'
    rw [Q.get_set] at hv'
    by_cases hi' : pathOf (i / es) = pathOf (off / es)
    · rw [if_pos hi'] at hv'
      have hie := pathOf_inj hi'
      simp only [Option.bind_some] at hv'
      rw [over_get vs (off % es) l h9] at hv'
      have him := Nat.div_add_mod' i es
      rw [a5]
      split at hv'
      · rename_i hin
        obtain ⟨y, hy, hd⟩ := denL_get hv _ _ hv'
        have e3 : i = off + (i % es - off % es) := by rw [hie] at him; omega
        have := hthere (i % es - off % es) (by omega)
        refine ⟨by omega, all_get ha hv', y, ?_, hd⟩
        rw [if_pos (by omega)]
        rw [show lc.co + i - (lc.co + off + 0) = i % es - off % es by omega]
        exact hy
      · rename_i hin
        have hr : rowGet es c i = some v := by unfold rowGet; rw [hie, h8]; exact hv'
        obtain ⟨q0, q1, y, q2, q3⟩ := g5 i v hr
        refine ⟨q0, q1, y, ?_, q3⟩
        rw [if_neg (by rw [hie] at him; omega)]; exact q2
    · rw [if_neg hi'] at hv'
      obtain ⟨q0, q1, y, q2, q3⟩ := g5 i v hv'
      refine ⟨q0, q1, y, ?_, q3⟩
      rw [a5, if_neg (fun hin => hi' (by
        have := (hidx (i - off) (by omega)).1
        rw [show off + (i - off) = i by omega] at this
        rw [this]))]
      exact q2
theorem store_ok {n : Nat} {f f' : Opd} (hn : szOf P t = .ok n) (hf : E.opd x = .ok f) (hf' : E.opd y = .ok f') : KOk P X ⟨dst, .store t x y, ty, pos, after, g⟩ E (.mem (storeF n f f')) := by
  intro call hcall ρ l tm h w a v h' m hfree ho hh next Qx hnext
  obtain ⟨p, hp, hh⟩ := bind_eq.1 hh
  obtain ⟨v', hv', hh⟩ := bind_eq.1 hh
  obtain ⟨b, off, rfl, hh⟩ := onPtr_eq.1 hh
  obtain ⟨cs, hc, hh⟩ := bind_eq.1 hh
  obtain ⟨h1, hh⟩ := tst_eq.1 hh
  obtain ⟨ob, h2, hh⟩ := bind_eq.1 hh
  obtain ⟨ob', h3, hh⟩ := bind_eq.1 hh
  cases hh
  rw [natBeq_eq, len_eq] at h1
  obtain ⟨lc, hl, hx⟩ := den_ptr_eq ρ (ho x (by simp [Op.operands]) f _ hf hp)
  obtain ⟨ys, g1, g2, g3⟩ := cells_den hc (ho y (by simp [Op.operands]) f' _ hf' hv')
  obtain ⟨w', a1, a2, a3⟩ := storeO_mem m hl (AX.Q.at_eq.1 h2) h3 g1 g3
  have : (execOp a.eval ⟨dst, .store t x y, ty, pos, after, g⟩).run P w = .ok .skip w' := by
    simp only [execOp, hx, Instr.storeAt, Instr.sureAddr, storeVar, Sem.run_bind, Sem.run_pure, Result.andThen_ok, run_sizeOf' hn, g2, List.size_toArray, denL_length g1, h1]
    simp [a1]
  show Oper.upon P _ a next Qx _
  rw [this, Oper.upon_skip]
  exact hnext ρ w' _ a3 a2 (den_undef ρ)
end
end Go.AX
