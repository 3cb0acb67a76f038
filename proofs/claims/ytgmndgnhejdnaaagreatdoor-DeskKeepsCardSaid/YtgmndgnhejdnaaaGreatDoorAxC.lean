/- The abstract executor: maps written, strings over bytes: they are the model's. -/
import Derived.Test.YtgmndgnhejdnaaaGreatDoorAxB
import Derived.Lib.UnsafeStr
import Derived.Deep.AppendSrc
import Derived.Deep.Upon
import Derived.Lib.ConvBytes
import Derived.Laws.IdiomStrings
import Derived.LoopN
namespace Go.AX
section
variable {P : Program} {X : Ext} {E : CE} {k : OpK} {x y : Operand} {dst : Option Tmp} {ty : TypeId} {pos : String} {after : Array Edge} {g : Option (Nat × Bool)} {t : TypeId}

theorem run_setObj_map {w : World} {r : Nat} {xs : Array MapEntry} {c : Nat} (h : w.heap[r]? = some (.map xs c)) (o : Obj) : (setObj r o).run P w = .ok () { w with heap := w.heap.setIfInBounds r o } := by simp [setObj, Sem.run, h]
theorem only_setObj (w : World) (r : Nat) (o : Obj) : Only w { w with heap := w.heap.setIfInBounds r o } r :=
  ⟨rfl, rfl, rfl, by simp, fun k hk => by simp only [Array.getElem?_setIfInBounds]; rw [if_neg (fun e => hk e.symm)]⟩
theorem setObj_at {w : World} {r : Nat} {o' : Obj} (h : w.heap[r]? = some o') (o : Obj) : ({ w with heap := w.heap.setIfInBounds r o } : World).heap[r]? = some o := by
  have := (Array.getElem?_eq_some_iff.1 h).1
  simp only [Array.getElem?_setIfInBounds, if_true, if_pos this]
theorem mapUpdate_mem {ρ : Rho} {h : AH} {w : World} {kt et : TypeId} {eq : AV → AV → R Bool} {ma ka va : AV} {mv kv vv : Value} {h' : AH} (m : Mem P ρ h w) (hd : P.underlying t = some (.map kt et)) (hk : KeyFits P kt eq)
    (hm : den ρ ma = some mv) (hkv : den ρ ka = some kv) (hvv : den ρ va = some vv) (hr : updA eq h ma ka va = .ok h') :
    ∃ w', (Instr.mapUpdate t mv kv vv).run P w = .ok () w' ∧ Mem P ρ h' w' ∧ Step ρ h w ρ h' w' := by
  obtain ⟨d, hd', hf, hck⟩ := hk.ex
  obtain ⟨_, hself, hr⟩ := bind_eq.1 hr
  have hck' : ∀ e, (Instr.checkKey e 10000 kt kv).run P w = .ok () w := fun e => hck ρ ka _ kv hself hkv w e
  obtain ⟨b, rfl, hr⟩ := onMap_eq.1 hr
  obtain ⟨o, h1, hr⟩ := bind_eq.1 hr
  obtain ⟨o', h2, hr⟩ := bind_eq.1 hr
  cases hr
  have h1 := Q.at_eq.1 h1
  obtain ⟨es, c, rfl, h2⟩ := onMapO_eq.1 h2
  obtain ⟨q, h3, h2⟩ := bind_eq.1 h2
  obtain ⟨lc, hl, rfl⟩ := den_map_eq ρ hm
  obtain ⟨xs, g1, g2⟩ := map_mem m hl h1
  have hfa := findA_ok hd' hf hkv es xs.toList q g2 h3
  cases q with
  | none =>
    have h2 : R.ok (.map (app es [⟨ka, va, c⟩]) (c + 1)) = R.ok o' := h2
    cases h2
    simp only at hfa
    have hrun : (Instr.mapUpdate t (.map (some lc.cb)) kv vv).run P w = .ok () { w with heap := w.heap.setIfInBounds lc.cb (.map (xs.push ⟨kv, vv, c⟩) (c + 1)) } := by
      simp only [Instr.mapUpdate, Sem.run_bind, run_underlying hd, Result.andThen_ok, run_getObj_map g1, hck', hfa, run_setObj_map g1]
    refine ⟨_, hrun, m.put h1 hl rfl (only_setObj w _ _) ⟨xs.push ⟨kv, vv, c⟩, setObj_at g1 _, ?_, fun i e z he hz => ?_⟩⟩
    · rw [app_eq]; simp [g2.1]
    · rw [app_eq] at he
      rw [Array.toList_push] at hz
      by_cases hi : i < es.length
      · rw [List.getElem?_append_left hi] at he
        rw [List.getElem?_append_left (by rw [g2.1]; exact hi)] at hz
        exact g2.2 i e z he hz
      · rw [List.getElem?_append_right (by omega)] at he
        rw [List.getElem?_append_right (by rw [g2.1]; omega), g2.1] at hz
        have : i - es.length = 0 := by
          have := (List.getElem?_eq_some_iff.1 he).1
          simp at this; omega
        rw [this] at he hz
        simp at he hz
        subst he; subst hz
        exact ⟨hkv, hvv, rfl⟩
  | some p =>
    obtain ⟨j, v0⟩ := p
    have h2 : R.ok (.map (modN j (fun e => ⟨ka, va, e.born⟩) es) c) = R.ok o' := h2
    cases h2
    obtain ⟨e0, m0, _, a2, a3, a4, a5, a6, a7⟩ := hfa
    simp only [Nat.sub_zero] at a2 a4
    have a4' : xs[j]? = some m0 := by rw [← Array.getElem?_toList]; exact a4
    have hrun : (Instr.mapUpdate t (.map (some lc.cb)) kv vv).run P w = .ok () { w with heap := w.heap.setIfInBounds lc.cb (.map (xs.modify j fun e => { e with key := kv, val := vv }) c) } := by
      simp only [Instr.mapUpdate, Sem.run_bind, run_underlying hd, Result.andThen_ok, Sem.run_pure, run_getObj_map g1, hck', a5, Instr.keyThatStays, a4', Option.map_some, Option.getD_some, a7, if_true, run_setObj_map g1]
    refine ⟨_, hrun, m.put h1 hl rfl (only_setObj w _ _) ⟨xs.modify j fun e => { e with key := kv, val := vv }, setObj_at g1 _, ?_, fun i e z he hz => ?_⟩⟩
    · rw [modN_eq]; simp [g2.1]
    · rw [modN_eq, List.getElem?_modify] at he
      rw [Array.getElem?_toList, Array.getElem?_modify] at hz
      by_cases hi : j = i
      · subst hi
        rw [if_pos rfl] at hz
        simp only [if_true, a2, Option.map_eq_map, Option.map_some, Option.some.injEq] at he
        rw [a4'] at hz
        simp only [Option.map_some, Option.some.injEq] at hz
        subst he; subst hz
        exact ⟨hkv, hvv, (g2.2 j e0 m0 a2 a4).2.2⟩
      · rw [if_neg hi] at hz
        simp only [if_neg hi, Option.map_eq_map] at he
        have he' : es[i]? = some e := by
          cases hq : es[i]? with
          | none => simp [hq] at he
          | some q => simpa [hq] using he
        exact g2.2 i e z he' (by rw [Array.getElem?_toList]; exact hz)
theorem mapUpdate_ok' {kt et : TypeId} {eq : AV → AV → R Bool} {ox oy oz : Operand} {fm fk fv : Opd} {op : Op} (hop : op = .mapUpdate t ox oy oz ∨ op = .insert t ox oy oz) (hd : P.underlying t = some (.map kt et)) (hkf : KeyFits P kt eq)
    (hf1 : E.opd ox = .ok fm) (hf2 : E.opd oy = .ok fk) (hf3 : E.opd oz = .ok fv) : KOk P X ⟨dst, op, ty, pos, after, g⟩ E (.mem (mapUpdateF eq fm fk fv)) := by
  intro call hcall ρ l tm h w a v h' m hfree ho hh next Qx hnext
  obtain ⟨m1, e1, hh⟩ := bind_eq.1 hh
  obtain ⟨k1, e2, hh⟩ := bind_eq.1 hh
  obtain ⟨v1, e3, hh⟩ := bind_eq.1 hh
  obtain ⟨h1, e4, hh⟩ := bind_eq.1 hh
  cases hh
  have a1 := ho ox (by rcases hop with rfl | rfl <;> simp [Op.operands]) _ _ hf1 e1
  have a2 := ho oy (by rcases hop with rfl | rfl <;> simp [Op.operands]) _ _ hf2 e2
  have a3 := ho oz (by rcases hop with rfl | rfl <;> simp [Op.operands]) _ _ hf3 e3
  obtain ⟨w', b1, b2, b3⟩ := mapUpdate_mem m hd hkf a1 a2 a3 e4
  have : (execOp a.eval ⟨dst, op, ty, pos, after, g⟩).run P w = .ok .skip w' := by
    rcases hop with rfl | rfl <;> simp only [execOp, Sem.run_bind, b1, Result.andThen_ok, Sem.run_pure]
  show Oper.upon P _ a next Qx _
  rw [this, Oper.upon_skip]
  exact hnext ρ w' _ b3 b2 (den_undef ρ)

theorem valOf_eq : ∀ {l : List AV} {n s : Nat}, valOf l n = .ok s → ∃ bs : List UInt8, bs.length = l.length ∧ s = encL bs n ∧ ∀ (i : Nat) (v : AV), l[i]? = some v → ∃ b, bs[i]? = some b ∧ v = .int .u8 (b.toNat : Int)
  | [], n, s, h => by
    have h : R.ok n = R.ok s := h
    cases h; exact ⟨[], rfl, rfl, fun i v hv => by simp at hv⟩
  | v :: l, n, s, h => by
    obtain ⟨k, i, rfl, h⟩ := onInt_eq.1 h
    obtain ⟨h1, h⟩ := tst_eq.1 h
    obtain rfl := kindEq_eq h1
    obtain ⟨m, rfl, h⟩ := onNat_eq.1 h
    obtain ⟨h2, h⟩ := tst_eq.1 h
    rw [natBlt_eq] at h2
    obtain ⟨bs, g1, g2, g3⟩ := valOf_eq h
    have e : (UInt8.ofNat m).toNat = m := by simp; omega
    refine ⟨UInt8.ofNat m :: bs, by simp [g1], ?_, fun i v hv => ?_⟩
    · show s = encL bs (n * 256 + (UInt8.ofNat m).toNat)
      rw [e]; exact g2
    · cases i with
      | zero => simp at hv; subst hv; exact ⟨_, rfl, by rw [e]⟩
      | succ i => exact g3 i v (by simpa using hv)
theorem byteOk_cell {ρ : Rho} {v : AV} {y : Value} (h : byteOk v = true) (hy : den ρ v = some y) : ∃ b : UInt8, y = .int .u8 (b.toNat : Int) := by
  unfold byteOk at h
  split at h
  · simp only [den, Option.map_eq_some_iff] at hy
    obtain ⟨l, _, rfl⟩ := hy
    exact ⟨_, rfl⟩
  · rename_i k m
    rw [band_eq, Bool.and_eq_true, natBlt_eq] at h
    obtain rfl := kindEq_eq h.1
    rw [den_int] at hy
    cases hy
    refine ⟨UInt8.ofNat m, ?_⟩
    have : (UInt8.ofNat m).toNat = m := by simp; omega
    rw [this]; rfl
  · cases h
theorem allB_eq {α : Type} {f : α → Bool} : ∀ {l : List α}, allB f l = true → ∀ x, x ∈ l → f x = true
  | [], _, x, hx => by cases hx
  | a :: l, h, x, hx => by
    have h : band (f a) (allB f l) = true := h
    rw [band_eq, Bool.and_eq_true] at h
    rcases List.mem_cons.1 hx with e | hx
    · rw [e]; exact h.1
    · exact allB_eq h.2 x hx
theorem strOfA_ok {ρ : Rho} {l : List AV} {ys : List Value} {r : AV} (h : strOfA l = .ok r) (hl : denL ρ l = some ys) : ∃ bs : List UInt8, ys = bs.map (fun b => Value.int .u8 (b.toNat : Int)) ∧ den ρ r = some (.string ⟨bs.toArray⟩) := by
  unfold strOfA at h
  cases hv : valOf l 0 with
  | ok s =>
    rw [hv] at h
    cases h
    obtain ⟨bs, b1, b2, b3⟩ := valOf_eq hv
    refine ⟨bs, ?_, ?_⟩
    · apply List.ext_getElem?
      intro i
      have hlen := denL_length hl
      by_cases hi : i < l.length
      · obtain ⟨b, c1, c2⟩ := b3 i l[i] (List.getElem?_eq_getElem hi)
        obtain ⟨y, d1, d2⟩ := denL_get hl i l[i] (List.getElem?_eq_getElem hi)
        rw [c2, den_int] at d2
        cases d2
        rw [d1, List.getElem?_map, c1]; rfl
      · rw [List.getElem?_eq_none (by omega), List.getElem?_eq_none (by simp; omega)]
    · rw [den_str, len_eq]
      congr 2
      unfold bytesOf
      rw [b2, ← b1, bytesL_encL]
  | err e =>
    rw [hv] at h
    obtain ⟨h1, h2⟩ := tst_eq.1 h
    cases h2
    have hb := allB_eq h1
    clear hv h h1
    have key : ∀ (l : List AV) (ys : List Value), denL ρ l = some ys → (∀ x, x ∈ l → byteOk x = true) → ∃ bs : List UInt8, ys = bs.map (fun b => Value.int .u8 (b.toNat : Int)) := by
      intro l
      induction l with
      | nil => intro ys h _; cases h; exact ⟨[], rfl⟩
      | cons v l ih =>
        intro ys h hb
        obtain ⟨y, zs, h1, h2, rfl⟩ := denL_cons_eq.1 h
        obtain ⟨b, rfl⟩ := byteOk_cell (hb v (by simp)) h1
        obtain ⟨bs, rfl⟩ := ih zs h2 (fun x hx => hb x (by simp [hx]))
        exact ⟨b :: bs, rfl⟩
    obtain ⟨bs, rfl⟩ := key l ys hl hb
    exact ⟨bs, rfl, den_strL hl⟩
theorem liesAt_row {e : TypeId} (hc : P.cellsOf e = 1) (count off n : Nat) (hn : off + n ≤ count) : liesAt P P.depth e count off e n = true := by
  have hd : P.depth = (2 * (P.types.size + Made.depth) + 1) + 1 := rfl
  rw [hd]
  simp only [liesAt, Bool.or_eq_true]
  left
  rw [hd]
  simp [rowAt, hc, hn, sameLayout, Nat.mod_one]
theorem freeze_only (w : World) (cb o n : Nat) : Only w (w.freeze ⟨cb, o, none⟩ n) cb := by
  unfold World.freeze
  split
  · exact Only.refl w cb
  · exact ⟨rfl, rfl, rfl, by simp, fun k hk => by simp only [Array.getElem?_modify]; rw [if_neg (fun e => hk e.symm)]⟩
theorem freeze_at {w : World} {cb o n : Nat} {cs : Array Value} {e : TypeId} {lo hi : Nat} (h : w.heap[cb]? = some (.cells cs e (lo, hi))) :
    ∃ lo' hi', (w.freeze ⟨cb, o, none⟩ (n + 1)).heap[cb]? = some (.cells cs e (lo', hi')) ∧ ((lo = hi ∧ lo' = o ∧ hi' = o + (n + 1)) ∨ (lo ≠ hi ∧ lo' = min lo o ∧ hi' = max hi (o + (n + 1)))) := by
  unfold World.freeze
  rw [if_neg (by omega)]
  by_cases he : lo = hi
  · subst he
    exact ⟨_, _, by simp [Array.getElem?_modify, h], .inl ⟨rfl, rfl, rfl⟩⟩
  · have e' : (lo == hi) = false := by simpa using he
    refine ⟨_, _, ?_, .inr ⟨he, rfl, rfl⟩⟩
    simp [Array.getElem?_modify, h, he]
theorem run_unsafeString_zero {w : World} (pt it ty : TypeId) (p : Option Addr) (j : IntKind) : (Builtin.unsafeString_ #[pt, it] ty #[.pointer p, .int j (.ofNat 0)]).run P w = .ok (.string .empty) w := by
  have hmax : IntKind.i64.max = 9223372036854775807 := rfl
  cases p with
  | none =>
    have hdef : Builtin.unsafeString_ #[pt, it] ty #[.pointer none, .int j (.ofNat 0)] =
        (do
          let n ← asInt (.int j (.ofNat 0))
          if n < 0 then runtimePanic (.error "unsafe.String: len out of range")
          if n > IntKind.i64.max then unsupported (.unsafePointer "String: a length above the largest int")
          if n = 0 then pure (.string .empty)
          else runtimePanic (.error "unsafe.String: ptr is nil and len is not zero")) := rfl
    rw [hdef]
    simp [asInt, asIntOf, hmax]
  | some a =>
    have hdef : Builtin.unsafeString_ #[pt, it] ty #[.pointer (some a), .int j (.ofNat 0)] =
        (do
          let n ← asInt (.int j (.ofNat 0))
          if n < 0 then runtimePanic (.error "unsafe.String: len out of range")
          if n > IntKind.i64.max then unsupported (.unsafePointer "String: a length above the largest int")
          if n = 0 then pure (.string .empty)
          else if ← variablesAt a (← elemOf pt) n.toNat then do
            let s ← loadBytes a .empty n.toNat
            freeze a n.toNat
            pure (.string s)
          else unsupported (.unsafePointer "String: not so many bytes at ptr")) := rfl
    rw [hdef]
    simp [asInt, asIntOf, hmax]
theorem run_unsafeString_some {w : World} (pt it ty e : TypeId) (hp : P.underlying pt = some (.pointer e)) (a : Addr) (j : IntKind) (n : Nat) (hn : n ≤ 1073741824) (s : ByteArray) (hv : (variablesAt a e (n + 1)).run P w = .ok true w) (hl : (loadBytes a .empty (n + 1)).run P w = .ok s w) :
    (Builtin.unsafeString_ #[pt, it] ty #[.pointer (some a), .int j (.ofNat (n + 1))]).run P w = .ok (.string s) (w.freeze a (n + 1)) := by
  have hdef : Builtin.unsafeString_ #[pt, it] ty #[.pointer (some a), .int j (.ofNat (n + 1))] =
      (do
        let m ← asInt (.int j (.ofNat (n + 1)))
        if m < 0 then runtimePanic (.error "unsafe.String: len out of range")
        if m > IntKind.i64.max then unsupported (.unsafePointer "String: a length above the largest int")
        if m = 0 then pure (.string .empty)
        else if ← variablesAt a (← elemOf pt) m.toNat then do
          let s ← loadBytes a .empty m.toNat
          freeze a m.toNat
          pure (.string s)
        else unsupported (.unsafePointer "String: not so many bytes at ptr")) := rfl
  rw [hdef]
  have hmax : IntKind.i64.max = 9223372036854775807 := rfl
  have e1 : ¬ ((n : Int) + 1 < 0) := by omega
  have e2 : ¬ ((9223372036854775807 : Int) < (n : Int) + 1) := by omega
  have e3 : ¬ ((n : Int) + 1 = 0) := by omega
  have e4 : ((n : Int) + 1).toNat = n + 1 := by omega
  simp [asInt, asIntOf, hmax, e1, e2, e3, e4, elemOf, run_underlying hp, hv, hl]
theorem unsafeString_mem {ρ : Rho} {h : AH} {w : World} {e : TypeId} {pt it : TypeId} {v u : AV} {xv yv : Value} {r : AV} {h' : AH} (m : Mem P ρ h w) (hp : P.underlying pt = some (.pointer e)) (hc : P.cellsOf e = 1)
    (hv : den ρ v = some xv) (hu : den ρ u = some yv) (hr : unsafeStringA e h v u = .ok (r, h')) :
    ∃ w' z, (Builtin.unsafeString_ #[pt, it] ty #[xv, yv]).run P w = .ok z w' ∧ den ρ r = some z ∧ Mem P ρ h' w' ∧ Step ρ h w ρ h' w' := by
  unfold unsafeStringA at hr
  obtain ⟨n, h1, hr1⟩ := bind_eq.1 hr
  clear hr
  obtain ⟨j, rfl⟩ := natOf_eq h1
  rw [den_int] at hu
  cases hu
  split at hr1
  · split at hr1
    · cases hr1
      rw [den_nilp] at hv; cases hv
      refine ⟨w, .string (bytesOf 0 0), ?_, den_str _ _ _, m, Step.refl ρ _ w⟩
      exact run_unsafeString_zero pt it ty _ j
    · cases hr1
      obtain ⟨lc, hl, rfl⟩ := den_ptr_eq ρ hv
      refine ⟨w, .string (bytesOf 0 0), ?_, den_str _ _ _, m, Step.refl ρ _ w⟩
      exact run_unsafeString_zero pt it ty _ j
    · cases hr1
  · rename_i n' 
    obtain ⟨b, off, rfl, hr2⟩ := onPtr_eq.1 hr1
    clear hr1
    obtain ⟨o, h2, hr⟩ := bind_eq.1 hr2
    clear hr2
    have h2 := Q.at_eq.1 h2
    obtain ⟨e', ro, op, es, size, fr, c, rfl, hr3⟩ := onRow_eq.1 hr
    clear hr
    obtain ⟨h3, hr4⟩ := tst_eq.1 hr3
    clear hr3
    rw [band_eq, band_eq, band_eq, Bool.and_eq_true, Bool.and_eq_true, Bool.and_eq_true, natBle_eq, natBeq_eq, natBle_eq, bnot_eq, Bool.not_eq_true'] at h3
    obtain ⟨h30, rfl, h3, rfl⟩ := h3
    obtain ⟨l, h4, hr5⟩ := bind_eq.1 hr4
    clear hr4
    obtain ⟨s, h5, hr6⟩ := bind_eq.1 hr5
    clear hr5
    obtain ⟨fr', h6, hr7⟩ := bind_eq.1 hr6
    cases hr7
    obtain ⟨lc, hl, rfl⟩ := den_ptr_eq ρ hv
    have ho := m.obj _ _ lc h2 hl
    obtain ⟨cs, lo, hi, g1, g2, g3, g4, g5⟩ := id ho
    obtain ⟨f1, f2⟩ := cellsFrom_eq h4
    have hys : ∃ ys, denL ρ l = some ys ∧ ∀ j y, ys[j]? = some y → w.cell? ((⟨lc.cb, lc.co + off, none⟩ : Addr).add j) = some y := by
      have hone : ∀ j (v : AV), l[j]? = some v → ∃ y, w.cell? ((⟨lc.cb, lc.co + off, none⟩ : Addr).add j) = some y ∧ den ρ v = some y := by
        intro j v hv
        obtain ⟨y, q1, q2, _⟩ := cell_row ho (f2 j v hv)
        refine ⟨y, ?_, q2⟩
        rw [addr_add, Nat.add_assoc]
        exact q1
      let g : Nat → Value := fun j => (w.cell? ((⟨lc.cb, lc.co + off, none⟩ : Addr).add j)).getD undef
      refine ⟨(List.range l.length).map g, denL_of_get (by simp) fun j v y hv hy => ?_, fun j y hy => ?_⟩
      · obtain ⟨y', h1, h2⟩ := hone j v hv
        have hj := (List.getElem?_eq_some_iff.1 hv).1
        simp only [List.getElem?_map, List.getElem?_range hj, Option.map_some, Option.some.injEq] at hy
        rw [← hy, show g j = y' by simp only [g, h1, Option.getD_some]]
        exact h2
      · have hj : j < l.length := by have := (List.getElem?_eq_some_iff.1 hy).1; simpa using this
        obtain ⟨y', h1, h2⟩ := hone j l[j] (List.getElem?_eq_getElem hj)
        simp only [List.getElem?_map, List.getElem?_range hj, Option.map_some, Option.some.injEq] at hy
        rw [← hy, show g j = y' by simp only [g, h1, Option.getD_some]]
        exact h1
    obtain ⟨ys, y1, y2⟩ := hys
    obtain ⟨bs, b1, b2⟩ := strOfA_ok h5 y1
    have hcell : ∀ (j : Nat) (x : UInt8), bs[j]? = some x → w.cell? ((⟨lc.cb, lc.co + off, none⟩ : Addr).add j) = some (.int .u8 x.toNat) := by
      intro j x hx
      refine y2 j _ ?_
      rw [b1, List.getElem?_map, hx]; rfl
    have hbl : bs.length = n' + 1 := by
      have h1 := denL_length y1
      rw [b1, List.length_map] at h1
      rw [h1, f1]
    have hstr : (⟨ByteArray.empty.data ++ bs.toArray⟩ : ByteArray) = ⟨bs.toArray⟩ := by simp
    have hlies : liesAt P P.depth e (cs.size / P.cellsOf e) (lc.co + off) e (n' + 1) = true := by
      rw [hc, Nat.div_one]
      exact liesAt_row hc _ _ _ (by omega)
    have hlb : (loadBytes ⟨lc.cb, lc.co + off, none⟩ .empty (n' + 1)).run P w = .ok ⟨bs.toArray⟩ w := by
      rw [← hstr, ← hbl]
      exact Lib.run_loadBytes w bs _ _ hcell
    obtain ⟨lo', hi', k1, k2⟩ := freeze_at (o := lc.co + off) (n := n') g1
    refine ⟨w.freeze ⟨lc.cb, lc.co + off, none⟩ (n' + 1), .string ⟨bs.toArray⟩, ?_, b2, m.put h2 hl rfl (freeze_only w _ _ _) ⟨cs, lo', hi', k1, g2, g3, ?_, g5⟩⟩
    · exact run_unsafeString_some pt it ty e hp _ j n' (by omega) _ (by rw [variablesAt_run g1, hlies]) hlb
    · cases fr with
      | clean =>
        have h6 : R.ok (Fr.range off (off + (n' + 1))) = R.ok fr' := h6
        cases h6
        have g4 : lo = hi := g4
        show lo' ≤ hi' ∧ (lo' < hi' → lc.co + off ≤ lo' ∧ hi' ≤ lc.co + (off + (n' + 1)))
        omega
      | range a b =>
        have h6 : R.ok (Fr.range (min a off) (max b (off + (n' + 1)))) = R.ok fr' := h6
        cases h6
        have g4 : lo ≤ hi ∧ (lo < hi → lc.co + a ≤ lo ∧ hi ≤ lc.co + b) := g4
        show lo' ≤ hi' ∧ (lo' < hi' → lc.co + min a off ≤ lo' ∧ hi' ≤ lc.co + max b (off + (n' + 1)))
        by_cases hlt : lo < hi
        · have := g4.2 hlt; omega
        · omega
      | past => cases h6
end
end Go.AX
/- The abstract executor: slices that grow: it is the model's append. -/
namespace Go.AX
section
variable {P : Program} {X : Ext} {E : CE} {k : OpK} {x y : Operand} {dst : Option Tmp} {ty : TypeId} {pos : String} {after : Array Edge} {g : Option (Nat × Bool)} {t : TypeId}

theorem rowGet_lay {ρ : Rho} {es : Nat} {new : List (List AV)} {news : List Value} (h : ElemsOk ρ es new news) {q : Nat} {c : Q (List AV)} {i : Nat} {v : AV} (hv : rowGet es (layRow new q c) i = some v) :
    (q ≤ i / es ∧ i / es < q + new.length ∧ oneV v = true ∧ q * es ≤ i ∧ i - q * es < news.length ∧ ∃ x, news[i - q * es]? = some x ∧ den ρ v = some x) ∨ (¬ (q ≤ i / es ∧ i / es < q + new.length) ∧ rowGet es c i = some v) := by
  obtain ⟨u, h1, h2⟩ := Option.bind_eq_some_iff.1 hv
  rw [layRow_get] at h1
  split at h1
  · rename_i hin
    obtain ⟨g1, x, g2, g3⟩ := h.get h1 h2
    have he : i / es * es + i % es = i := Nat.div_add_mod' i es
    have e1 : (i / es - q) * es + i % es = i - q * es := by rw [Nat.sub_mul]; have := Nat.mul_le_mul_right es hin.1; omega
    rw [e1] at g2
    exact .inl ⟨hin.1, hin.2, g1, by have := Nat.mul_le_mul_right es hin.1; omega, (List.getElem?_eq_some_iff.1 g2).1, x, g2, g3⟩
  · rename_i hin
    exact .inr ⟨hin, Option.bind_eq_some_iff.2 ⟨u, h1, h2⟩⟩
theorem div_range {i q m es : Nat} (h1 : q * es ≤ i) (h2 : i < (q + m) * es) : q ≤ i / es ∧ i / es < q + m := by
  have hpos : 0 < es := by
    rcases Nat.eq_zero_or_pos es with h0 | h0
    · rw [h0] at h2; simp at h2
    · exact h0
  exact ⟨(Nat.le_div_iff_mul_le hpos).2 h1, (Nat.div_lt_iff_lt_mul hpos).2 h2⟩
theorem oneL {ρ : Rho} {es : Nat} {new : List (List AV)} {news : List Value} (h : ElemsOk ρ es new news) : ∀ v ∈ news, Value.oneCell v = true := by
  intro v hvm
  obtain ⟨i, hi⟩ := List.getElem?_of_mem hvm
  have hlt : i < new.flatten.length := by rw [← denL_length h.1]; exact (List.getElem?_eq_some_iff.1 hi).1
  obtain ⟨y, hy, hd⟩ := denL_get h.1 i new.flatten[i] (List.getElem?_eq_getElem hlt)
  rw [hi] at hy; cases hy
  obtain ⟨l, hl, hm⟩ := List.mem_flatten.1 (List.getElem_mem hlt)
  exact den_one (List.all_eq_true.1 (h.2 l hl).2 _ hm) hd
theorem store_lay {ρ : Rho} {w : World} {cb co size size' q es : Nat} {cs : Array Value} {e : TypeId} {lo hi : Nat} {c : Q (List AV)} {new : List (List AV)} {news : List Value} (hb : w.heap[cb]? = some (.cells cs e (lo, hi))) (hc : CellsOk ρ co size cs (rowGet es c))
    (hn : ElemsOk ρ es new news) (hs : size ≤ size') (hs' : (q + new.length) * es ≤ size') (hroom : co + (q + new.length) * es ≤ cs.size) (hf : ∀ j, q * es ≤ j → j < (q + new.length) * es → ¬ (lo ≤ co + j ∧ co + j < hi)) :
    ∃ w' cs', (storeCells ⟨cb, co + q * es, none⟩ news 0).run P w = .ok () w' ∧ Only w w' cb ∧ w'.heap[cb]? = some (.cells cs' e (lo, hi)) ∧ cs'.size = cs.size ∧ CellsOk ρ co size' cs' (rowGet es (layRow new q c)) := by
  have hlen := hn.length
  have hm : (q + new.length) * es = q * es + new.length * es := Nat.add_mul _ _ _
  obtain ⟨w', cs', a1, a2, a3, a4, a5⟩ := storeCells_run (P := P) cb news w (co + q * es) 0 cs e lo hi hb (by omega) (fun j hj => by
    have := hf (q * es + j) (by omega) (by omega)
    rw [show co + q * es + 0 + j = co + (q * es + j) by omega]; exact this) (oneL hn)
  refine ⟨w', cs', a1, a2, a3, a4, fun i v hv => ?_⟩
  rcases rowGet_lay hn hv with ⟨g1, g2, g3, g4, g5, y, g6, g7⟩ | ⟨g1, g2⟩
  · refine ⟨by omega, g3, y, ?_, g7⟩
    rw [a5, if_pos (by omega), show co + i - (co + q * es + 0) = i - q * es by omega]
    exact g6
  · obtain ⟨f1, f2, y, f3, f4⟩ := hc i v g2
    refine ⟨by omega, f2, y, ?_, f4⟩
    rw [a5, if_neg (fun hh => g1 (div_range (by omega) (by omega)))]
    exact f3
theorem newRow_ok {ρ : Rho} {n es : Nat} {c : Q (List AV)} {new : List (List AV)} {olds news : List Value} {cs : Array Value} (hn : ElemsOk ρ es new news) (ho : olds.length = n * es) (hcs : ∀ j, j < (olds ++ news).length → cs[j]? = (olds ++ news)[j]?)
    (hc : ∀ i v, rowGet es c i = some v → i < (n + new.length) * es ∧ (i < n * es → oneV v = true ∧ ∃ x, olds[i]? = some x ∧ den ρ v = some x)) : CellsOk ρ 0 ((n + new.length) * es) cs (rowGet es (layRow new n c)) := by
  have hlen := hn.length
  have hm : (n + new.length) * es = n * es + new.length * es := Nat.add_mul _ _ _
  intro i v hv
  rcases rowGet_lay hn hv with ⟨g1, g2, g3, g4, g5, y, g6, g7⟩ | ⟨g1, g2⟩
  · refine ⟨by omega, g3, y, ?_, g7⟩
    rw [Nat.zero_add, hcs i (by rw [List.length_append]; omega), List.getElem?_append_right (by omega), ho]
    exact g6
  · obtain ⟨f1, f2⟩ := hc i v g2
    have hlt : i < n * es := by
      apply Classical.byContradiction
      intro hge
      exact g1 (div_range (by omega) f1)
    obtain ⟨f3, y, f4, f5⟩ := f2 hlt
    refine ⟨f1, f3, y, ?_, f5⟩
    rw [Nat.zero_add, hcs i (by rw [List.length_append]; omega), List.getElem?_append_left (by omega)]
    exact f4
theorem cellsOk_row' {ρ : Rho} {es : Nat} {vs : List (List AV)} {xs : List Value} (h : ElemsOk ρ es vs xs) (co : Nat) (cs : Array Value) (hc : ∀ i : Nat, i < xs.length → cs[co + i]? = xs[i]?) : CellsOk ρ co (vs.length * es) cs (rowGet es (layRow vs 0 .nil)) := by
  intro i v hv
  obtain ⟨h1, h2, y, h3, h4⟩ := cellsOk_row h xs.toArray (fun i _ => by simp) i v hv
  refine ⟨h1, h2, y, ?_, h4⟩
  rw [hc i (by rw [h.length]; exact h1)]
  simpa using h3
theorem elemsFrom_ok {ρ : Rho} {es co size : Nat} {c : Q (List AV)} {cs : Array Value} (hc : CellsOk ρ co size cs (rowGet es c)) : ∀ {n off : Nat} {vs : List (List AV)}, elemsFrom es c n off = .ok vs →
    ∃ xs, ElemsOk ρ es vs xs ∧ vs.length = n ∧ ∀ j, j < xs.length → off + j < size ∧ cs[co + off + j]? = xs[j]?
  | 0, off, vs, h => by
    have h : R.ok [] = R.ok vs := h
    cases h; exact ⟨[], ⟨rfl, fun v hv => by simp at hv⟩, rfl, fun j hj => by simp at hj⟩
  | n + 1, off, vs, h => by
    have h : ((getRun es c off es).bind fun v => (elemsFrom es c n (off + es)).bind fun vs => .ok (v :: vs)) = .ok vs := h
    obtain ⟨v, h1, h⟩ := bind_eq.1 h
    obtain ⟨ws, h2, h⟩ := bind_eq.1 h
    cases h
    obtain ⟨g1, g2⟩ := getRun_eq h1
    obtain ⟨xs, f1, f2, f3⟩ := elemsFrom_ok hc h2
    have hv : ∀ j, j < es → ∃ y, cs[co + off + j]? = some y ∧ off + j < size ∧ ∃ u, v[j]? = some u ∧ oneV u = true ∧ den ρ u = some y := by
      intro j hj
      have hj' : j < v.length := by omega
      obtain ⟨e1, e2, y, e3, e4⟩ := hc _ _ (g2 j v[j] (List.getElem?_eq_getElem hj'))
      exact ⟨y, by rw [Nat.add_assoc]; exact e3, e1, v[j], List.getElem?_eq_getElem hj', e2, e4⟩
    have hle : es = 0 ∨ co + off + es ≤ cs.size := by
      rcases Nat.eq_zero_or_pos es with h0 | h0
      · exact .inl h0
      · obtain ⟨y, hy, _⟩ := hv (es - 1) (by omega)
        have := (Array.getElem?_eq_some_iff.1 hy).1
        exact .inr (by omega)
    let us : List Value := (cs.toList.drop (co + off)).take es
    have hul : us.length = es := by
      simp only [us, List.length_take, List.length_drop, Array.length_toList]
      omega
    have hug : ∀ j, j < es → us[j]? = cs[co + off + j]? := by
      intro j hj
      simp only [us]
      rw [List.getElem?_take_of_lt hj, List.getElem?_drop, Array.getElem?_toList]
    have hden : denL ρ v = some us := denL_of_get (by omega) fun j a b ha hb => by
      have hj : j < es := by have := (List.getElem?_eq_some_iff.1 ha).1; omega
      obtain ⟨y, q1, _, u, q2, _, q3⟩ := hv j hj
      rw [hug j hj, q1] at hb
      rw [ha] at q2
      cases q2; cases hb; exact q3
    refine ⟨us ++ xs, ⟨by simp only [List.flatten_cons]; exact denL_app hden f1.1, fun z hz => ?_⟩, by simp [f2], fun j hj => ?_⟩
    · rcases List.mem_cons.1 hz with rfl | hz
      · refine ⟨g1, List.all_eq_true.2 fun a ha => ?_⟩
        obtain ⟨j, hj⟩ := List.getElem?_of_mem ha
        have hj' : j < es := by have := (List.getElem?_eq_some_iff.1 hj).1; omega
        obtain ⟨y, _, _, u, q2, q3, _⟩ := hv j hj'
        rw [hj] at q2; cases q2; exact q3
      · exact f1.2 z hz
    · by_cases hj' : j < es
      · obtain ⟨y, q1, q2, _⟩ := hv j hj'
        refine ⟨q2, ?_⟩
        rw [List.getElem?_append_left (by omega), hug j hj']
      · rw [List.length_append] at hj
        obtain ⟨q1, q2⟩ := f3 (j - es) (by omega)
        refine ⟨by omega, ?_⟩
        rw [List.getElem?_append_right (by omega), hul, ← q2]
        congr 1; omega
end
end Go.AX
/- The abstract executor: append. -/
namespace Go.AX
section
variable {P : Program} {X : Ext} {E : CE} {k : OpK} {x y : Operand} {dst : Option Tmp} {ty : TypeId} {pos : String} {after : Array Edge} {g : Option (Nat × Bool)} {t tx : TypeId}

theorem append_in {w w' : World} {e : TypeId} {i : TypeInfo} (ht : P.underlying t = some (.slice e)) (hi : P.info? e = some i) {b off sLen sCap : Nat} {z : Value} {n : Nat} {news : List Value} (hs : Src P i.size tx z n news w)
    (hroom : sLen + n ≤ sCap) (hst : (storeCells ⟨b, off + sLen * i.size, none⟩ news 0).run P w = .ok () w') :
    (Builtin.append_ #[t, tx] ty #[.slice (some ⟨b, off, none⟩) sLen sCap, z]).run P w = .ok (.slice (some ⟨b, off, none⟩) (sLen + n) sCap) w' := by
  rcases hs.kind with ⟨e', hk⟩ | hk <;> simp [Builtin.append_, run_underlying ht, run_underlying hk, sizeOf, typeInfo, hi, hs.len, hroom, hs.cells, Addr.add_lit, hst]
def AppOk (P : Program) (ρ : Rho) (h : AH) (w : World) (t tx ty : TypeId) (v z : Value) (r : AV) (h' : AH) : Prop :=
  ∃ w' u ρ', (Builtin.append_ #[t, tx] ty #[v, z]).run P w = .ok u w' ∧ den ρ' r = some u ∧ Mem P ρ' h' w' ∧ Step ρ h w ρ' h' w'
theorem drew_drawn (w : World) : Drawn w w.drew := ⟨rfl, rfl, rfl, rfl⟩
theorem app_new {ρ : Rho} {h h1 : AH} {w : World} {e : TypeId} {i : TypeInfo} {zv : Value} {base : Option Addr} {n cap : Nat} {c : Q (List AV)} {fr : Fr} {new : List (List AV)} {olds news : List Value} {z : Value} (m : Mem P ρ h1 w) (hst : Step ρ h w ρ h1 w)
    (hfree : ρ h1.nx = none) (ht : P.underlying t = some (.slice e)) (hi : P.info? e = some i) (hz : i.zero = some zv) (hzl : zv.cells.size = i.size) (hb : i.bytes ≤ 65536) (hnb : n ≤ 1073741824) (hmb : new.length ≤ 1073741824)
    (hn : ElemsOk ρ i.size new news) (hs : Src P i.size tx z new.length news w) (ho : olds.length = n * i.size) (hold : ∀ w1 : World, w1.heap = w.heap → (Builtin.firstCells i.size n (.slice base n cap)).run P w1 = .ok olds.toArray w1)
    (hg : cap < n + new.length)
    (hc : ∀ j v, rowGet i.size c j = some v → j < (n + new.length) * i.size ∧ (j < n * i.size → oneV v = true ∧ ∃ x, olds[j]? = some x ∧ den ρ v = some x)) :
    AppOk P ρ h w t tx ty (.slice base n cap) z (.slc h1.nx 0 (n + new.length) (.room 0)) (h1.alloc (.cells e false true i.size ((n + new.length) * i.size) fr (layRow new n c))) := by
  let N := grownCap w (n + new.length) cap e
  have hN : n + new.length ≤ N := grownCap_ge w (n + new.length) cap e
  have h48 : Builtin.nextslicecap (n + new.length) cap * i.bytes ≤ 281474976710656 := by
    have a1 := nextslicecap_le hg
    have a2 : Builtin.nextslicecap (n + new.length) cap * i.bytes ≤ 4294967296 * 65536 := Nat.mul_le_mul (by omega) hb
    omega
  have hrun := run_append_grow_src (P := P) w t tx ty e i zv ht hi hz base n cap olds (hold _ rfl) z new.length news hs hg (by omega) h48
  let cs : Array Value := (olds ++ news).toArray ++ Builtin.zeroCells zv.cells (N - (n + new.length))
  obtain ⟨m1, s1⟩ := m.drawn (drew_drawn w)
  have hle := Rho.le_upd ρ ⟨w.heap.size, 0, N⟩ hfree
  have hlen : (olds ++ news).length = (n + new.length) * i.size := by rw [List.length_append, ho, hn.length, Nat.add_mul]
  have hcs : cs.size = N * i.size := by
    simp only [cs, Array.size_append, List.size_toArray, hlen, Builtin.zeroCells, Array.size_map, Array.size_range, hzl]
    rw [← Nat.add_mul]; congr 1; omega
  have hobj : ObjOk (ρ.upd h1.nx ⟨w.drew.heap.size, 0, N⟩) ⟨w.drew.heap.size, 0, N⟩ (w.drew.alloc (.cells cs e)) (.cells e false true i.size ((n + new.length) * i.size) fr (layRow new n c)) := by
    have hmul := Nat.mul_le_mul_right i.size hN
    refine ⟨cs, 0, 0, alloc_new _ _, by rw [hcs]; simpa using hmul, fun _ => ⟨hmul, by rw [hcs]; simp⟩, ?_, (newRow_ok hn ho (fun j hj => ?_) hc).mono hle⟩
    · cases fr with
      | clean => rfl
      | range a b => exact ⟨Nat.le_refl _, fun h => absurd h (by omega)⟩
      | past => exact fun j _ h => by omega
    · simp only [cs]
      rw [Array.getElem?_append_left (by simpa using hj)]
      simp
  obtain ⟨m2, s2⟩ := m1.alloc hfree N (.cells cs e) hobj
  refine ⟨_, _, _, hrun, ?_, m2, (hst.trans s1).trans s2⟩
  exact den_slc (c := .room 0) (Rho.upd_same _ _ _) ⟨(Nat.sub_zero N).symm, by simpa using hN⟩
theorem app_regrow {ρ : Rho} {h : AH} {w : World} {e : TypeId} {i : TypeInfo} {ro : Bool} {b : Id} {lc : Loc} {n off k : Nat} {c0 c : Q (List AV)} {fr : Fr} {size size0 size' : Nat} {new : List (List AV)} {news : List Value} {z : Value} {cs : Array Value} {lo hi : Nat} {fr' : Fr} {op : Bool} {es : Nat}
    (m : Mem P ρ h w) (hb : Q.get b h.tr = some (.cells e ro op es size fr c0)) (hl : ρ b = some lc) (hro : ro = false) (hfree : ρ h.nx = none) (ht : P.underlying t = some (.slice e)) (hi' : P.info? e = some i)
    (hn : ElemsOk ρ i.size new news) (hs : Src P i.size tx z new.length news w) (hk : off = k * i.size) (g1 : w.heap[lc.cb]? = some (.cells cs e (lo, hi))) (g2 : lc.co + lc.cap * i.size ≤ cs.size)
    (hroom : n + new.length ≤ lc.cap - k) (hkc : k ≤ lc.cap) (hc : CellsOk ρ (lc.co + off) size0 cs (rowGet i.size c)) (hs0 : size0 ≤ (n + new.length) * i.size) (hs' : size' = (n + new.length) * i.size)
    (hf : ∀ j, n * i.size ≤ j → j < (n + new.length) * i.size → ¬ (lo ≤ lc.co + off + j ∧ lc.co + off + j < hi)) (hfr : FrIs fr' (lc.co + off) (extOf true size' (lc.cap - k) i.size) lo hi) :
    AppOk P ρ h w t tx ty (.slice (some ⟨lc.cb, lc.co + off, none⟩) n (lc.cap - k)) z (.slc h.nx 0 (n + new.length) (.room 0)) ((h.kill b).alloc (.cells e false true i.size size' fr' (layRow new n c))) := by
  subst hs'
  have hend : lc.co + off + (lc.cap - k) * i.size ≤ cs.size := by
    have : k * i.size + (lc.cap - k) * i.size = lc.cap * i.size := by rw [← Nat.add_mul]; congr 1; omega
    omega
  have hmul := Nat.mul_le_mul_right i.size hroom
  obtain ⟨w', cs', a1, a2, a3, a4, a5⟩ := store_lay (P := P) g1 hc hn hs0 (Nat.le_refl _) (by omega) hf
  have hrun := append_in (P := P) (ty := ty) ht hi' hs hroom a1
  have hle := Rho.le_upd ρ ⟨lc.cb, lc.co + off, lc.cap - k⟩ hfree
  obtain ⟨m2, s2⟩ := m.regrow (o' := .cells e false true i.size ((n + new.length) * i.size) fr' (layRow new n c)) hb hl hro hfree ⟨lc.cb, lc.co + off, lc.cap - k⟩ rfl a2
    ⟨cs', lo, hi, a3, by rw [a4]; simp only; omega, fun _ => ⟨hmul, by rw [a4]; exact hend⟩, hfr, a5.mono hle⟩
  refine ⟨_, _, _, hrun, ?_, m2, s2⟩
  exact den_slc (c := .room 0) (Rho.upd_same _ _ _) ⟨by simp, by simpa using hroom⟩
theorem byteA_flat (l v : Nat) : ((bytesA l v).flatten).length = l ∧ ∀ j, j < l → ((bytesA l v).flatten)[j]? = some (.int .u8 (.ofNat (v / 256 ^ (l - 1 - j) % 256))) := by
  induction l with
  | zero => exact ⟨rfl, fun j hj => by omega⟩
  | succ l ih =>
    have e : bytesA (l + 1) v = [.int .u8 (.ofNat (v / 256 ^ l % 256))] :: bytesA l v := rfl
    rw [e]
    simp only [List.flatten_cons, List.cons_append, List.nil_append, List.length_cons]
    refine ⟨by rw [ih.1], fun j hj => ?_⟩
    cases j with
    | zero => simp
    | succ j =>
      rw [List.getElem?_cons_succ, ih.2 j (by omega)]
      congr 6; omega
theorem bytesA_elems (ρ : Rho) (l v : Nat) : (bytesA l v).length = l ∧ ElemsOk ρ 1 (bytesA l v) (byteCells (bytesOf l v)) := by
  have h1 : (bytesA l v).length = l := by
    induction l with
    | zero => rfl
    | succ l ih => show (bytesA l v).length + 1 = _; rw [ih]
  refine ⟨h1, denL_of_get ?_ fun j a b ha hb => ?_, fun u hu => ?_⟩
  · rw [byteCells_length, bytesOf_size, (byteA_flat l v).1]
  · have hj : j < l := by have := (List.getElem?_eq_some_iff.1 ha).1; rw [(byteA_flat l v).1] at this; exact this
    rw [(byteA_flat l v).2 j hj] at ha
    cases ha
    unfold byteCells at hb
    rw [bytesOf_data, List.getElem?_map, bytesL_get l v j hj] at hb
    simp only [Option.map_some, Option.some.injEq] at hb
    subst hb
    rw [den_int]
    simp
  · have : ∀ l, u ∈ bytesA l v → u.length = 1 ∧ u.all oneV = true := by
      intro l
      induction l with
      | zero => intro h; cases h
      | succ l ih =>
        intro h
        have h : u ∈ [.int .u8 (.ofNat (v / 256 ^ l % 256))] :: bytesA l v := h
        rcases List.mem_cons.1 h with rfl | h
        · exact ⟨rfl, rfl⟩
        · exact ih h
    exact this l hu
theorem flatten_ones : ∀ l : List AV, (l.map fun v => [v]).flatten = l
  | [] => rfl
  | v :: l => by
    show v :: (l.map fun v => [v]).flatten = v :: l
    rw [flatten_ones l]
theorem srcA_ok {ρ : Rho} {h : AH} {w : World} {es : Nat} {u : AV} {z : Value} {new : List (List AV)} (m : Mem P ρ h w) (hk : (∃ e', P.underlying tx = some (.slice e')) ∨ P.underlying tx = some .string) (hu : den ρ u = some z) (hr : srcA es h u = .ok new) :
    ∃ news, ElemsOk ρ es new news ∧ (new ≠ [] → Src P es tx z new.length news w) ∧ (new = [] → Src P es tx z 0 [] w) := by
  have fin : ∀ news, ElemsOk ρ es new news → Src P es tx z new.length news w → ∃ news, ElemsOk ρ es new news ∧ (new ≠ [] → Src P es tx z new.length news w) ∧ (new = [] → Src P es tx z 0 [] w) := by
    intro news h1 h2
    refine ⟨news, h1, fun _ => h2, fun h0 => ?_⟩
    subst h0
    have : news = [] := List.length_eq_zero_iff.1 (by rw [h1.length]; simp)
    subst this
    exact h2
  have nil : ∀ (e : ElemsOk ρ es new []), new.length = 0 → (∀ w' : World, (Builtin.lenOf z).run P w' = .ok 0 w') → (∀ w' : World, (Builtin.firstCells es 0 z).run P w' = .ok #[] w') → ∃ news, ElemsOk ρ es new news ∧ (new ≠ [] → Src P es tx z new.length news w) ∧ (new = [] → Src P es tx z 0 [] w) := by
    intro e h0 h1 h2
    exact fin [] e ⟨hk, by rw [h0]; exact h1, by rw [h0]; exact h2 w, by rw [h0]; exact h2 w.drew, by rw [h0]; simp, fun _ h => by cases h⟩
  unfold srcA at hr
  split at hr
  · cases hr
    rw [den_slc0] at hu; cases hu
    exact nil ⟨rfl, fun v hv => by cases hv⟩ rfl (fun _ => rfl) (fun w' => run_firstCells_none w' es 0 0 0)
  · cases hr
    simp only [den, Option.map_eq_some_iff] at hu
    obtain ⟨lc, hl, rfl⟩ := hu
    refine nil ⟨rfl, fun v hv => by cases hv⟩ rfl (fun w' => ?_) (fun w' => ?_)
    · split <;> rfl
    · split <;> exact run_firstCells_some w' es 0 _ _ _ [] (by simp) (by intro _ _ h'; simp at h')
  · rename_i b off n cp
    obtain ⟨o, h1, hr2⟩ := bind_eq.1 hr
    have h1 := Q.at_eq.1 h1
    obtain ⟨e', ro, op, es', size, fr, c, rfl, hr3⟩ := onRow_eq.1 hr2
    obtain ⟨h3, hr4⟩ := tst_eq.1 hr3
    rw [natBeq_eq] at h3
    subst h3
    obtain ⟨lc, cap, hl, rfl, _⟩ := den_slc_eq hu
    obtain ⟨cs, lo, hi, g1, g2, g3, g4, g5⟩ := m.obj _ _ lc h1 hl
    obtain ⟨xs, f1, f2, f3⟩ := elemsFrom_ok g5 hr4
    refine fin xs f1 ?_
    have hc : ∀ (w' : World), w'.heap = w.heap → ∀ j v, xs[j]? = some v → w'.cell? ((⟨lc.cb, lc.co + off, none⟩ : Addr).add j) = some v := by
      intro w' hw' j v hv
      rw [addr_add, cell_of_block (by rw [hw']; exact g1), (f3 j (List.getElem?_eq_some_iff.1 hv).1).2, hv]
    rw [f2]
    exact ⟨hk, fun _ => rfl, run_firstCells_some w es _ _ _ _ xs (by rw [f1.length, f2]) (hc w rfl), run_firstCells_some w.drew es _ _ _ _ xs (by rw [f1.length, f2]) (hc w.drew rfl), by rw [f1.length, f2], oneL f1⟩
  · obtain ⟨h3, hr4⟩ := tst_eq.1 hr
    rw [natBeq_eq] at h3
    subst h3
    cases hr4
    rw [den_str] at hu
    cases hu
    rename_i l v
    obtain ⟨a1, a2⟩ := bytesA_elems ρ l v
    refine fin _ a2 ?_
    rw [a1]
    have e1 := firstCells_string (P := P) (bytesOf l v) w
    have e2 := firstCells_string (P := P) (bytesOf l v) w.drew
    rw [bytesOf_size] at e1 e2
    exact ⟨hk, fun w' => by simp only [Builtin.lenOf, bytesOf_size, Sem.run_pure], e1, e2, by rw [byteCells_length, bytesOf_size]; simp, oneL a2⟩
  · obtain ⟨h3, hr4⟩ := tst_eq.1 hr
    rw [natBeq_eq] at h3
    subst h3
    cases hr4
    rename_i l
    obtain ⟨s, a1, rfl, a3⟩ := den_strL_eq hu
    have hel : ElemsOk ρ 1 (l.map fun v => [v]) (byteCells ⟨s.toArray⟩) := by
      have hfl : (l.map fun v => [v]).flatten = l := flatten_ones l
      refine ⟨?_, fun u hu' => ?_⟩
      · rw [hfl, a1]
        unfold byteCells
        simp
      · obtain ⟨v, hv, rfl⟩ := List.mem_map.1 hu'
        refine ⟨rfl, ?_⟩
        obtain ⟨i, hi, rfl⟩ := List.mem_iff_getElem.1 hv
        obtain ⟨y, h4, h5⟩ := denL_get a1 i l[i] (List.getElem?_eq_getElem hi)
        simp only [List.getElem?_map, Option.map_eq_some_iff] at h4
        obtain ⟨b, _, rfl⟩ := h4
        simp only [List.all_cons, List.all_nil, Bool.and_true]
        cases hl : l[i] with
        | agg q => rw [hl] at h5; obtain ⟨_, _, _, h⟩ := den_agg_eq h5; cases h
        | tuple q => rw [hl] at h5; obtain ⟨_, _, h⟩ := den_tuple_eq h5; cases h
        | _ => rfl
    refine fin _ hel ?_
    have e1 := firstCells_string (P := P) ⟨s.toArray⟩ w
    have e2 := firstCells_string (P := P) ⟨s.toArray⟩ w.drew
    have hsz : (⟨s.toArray⟩ : ByteArray).size = (l.map fun v => [v]).length := by
      rw [List.length_map, ← a3]; show s.toArray.size = _; simp
    rw [hsz] at e1 e2
    exact ⟨hk, fun w' => by simp only [Builtin.lenOf, hsz, Sem.run_pure], e1, e2, by rw [byteCells_length, hsz]; simp, oneL hel⟩
  · cases hr
end
end Go.AX
/- The abstract executor: append, whole. -/
namespace Go.AX
section
variable {P : Program} {X : Ext} {E : CE} {k : OpK} {x y : Operand} {dst : Option Tmp} {ty : TypeId} {pos : String} {after : Array Edge} {g : Option (Nat × Bool)} {t tx : TypeId}

theorem appendA_nil {es : Nat} {e : TypeId} {ρ : Rho} {h h' : AH} {w : World} {i : TypeInfo} {v r : AV} {vv z : Value} (m : Mem P ρ h w) (ht : P.underlying t = some (.slice e)) (hi : P.info? e = some i) (hv : den ρ v = some vv) (hs : Src P i.size tx z 0 [] w)
    (hr : appendA e es h v [] = .ok (r, h')) : AppOk P ρ h w t tx ty vv z r h' := by
  have fin : ∀ base n cap, n ≤ cap → vv = .slice base n cap → r = v → h' = h → AppOk P ρ h w t tx ty vv z r h' := by
    intro base n cap hle h1 h2 h3
    subst h1; subst h2; subst h3
    exact ⟨w, _, ρ, run_append_nothing w t tx ty e i ht hi base n cap hle z hs, hv, m, Step.refl ρ _ w⟩
  have hr : (match v with
    | .slc0 => R.ok (v, h)
    | .slc _ _ n (.exact m) => tst 119 (Nat.ble n m) (.ok (v, h))
    | .slc _ _ _ (.room _) => .ok (v, h)
    | .slcE .. => .ok (v, h)
    | _ => .err [116]) = .ok (r, h') := hr
  split at hr
  · cases hr
    rw [den_slc0] at hv; cases hv
    exact fin none 0 0 (Nat.le_refl _) rfl rfl rfl
  · obtain ⟨h1, hr2⟩ := tst_eq.1 hr
    rw [natBle_eq] at h1
    cases hr2
    obtain ⟨lc, cap, hl, rfl, hc⟩ := den_slc_eq hv
    have hc : cap = _ := hc
    exact fin _ _ _ (by rw [hc]; exact h1) rfl rfl rfl
  · cases hr
    obtain ⟨lc, cap, hl, rfl, hc⟩ := den_slc_eq hv
    exact fin _ _ _ (by have := hc.1; have := hc.2; omega) rfl rfl rfl
  · cases hr
    have hv' := hv
    simp only [den, Option.map_eq_some_iff] at hv'
    obtain ⟨lc, hl, rfl⟩ := hv'
    split
    · rename_i hle; rw [if_pos hle] at fin; exact fin _ _ _ (Nat.le_refl _) rfl rfl rfl
    · rename_i hle; rw [if_neg hle] at fin; exact fin _ _ _ (Nat.zero_le _) rfl rfl rfl
  · cases hr
theorem growIn_mem {ρ : Rho} {h h' : AH} {w : World} {e : TypeId} {i : TypeInfo} {ro op : Bool} {b : Id} {lc : Loc} {n off size capn : Nat} {cap : Cap} {c : Q (List AV)} {fr : Fr} {new : List (List AV)} {news : List Value} {z : Value} {r : AV}
    (m : Mem P ρ h w) (hb : Q.get b h.tr = some (.cells e ro op i.size size fr c)) (hl : ρ b = some lc) (ht : P.underlying t = some (.slice e)) (hi : P.info? e = some i) (hn : ElemsOk ρ i.size new news) (hs : Src P i.size tx z new.length news w)
    (hmod : off % i.size = 0) (_hcap : CapIs lc n capn cap) (hroom : n + new.length ≤ capn) (hcap' : CapIs lc (n + new.length) capn cap) (hr : growIn h b off n cap new e ro op i.size size fr c = .ok (r, h')) :
    AppOk P ρ h w t tx ty (.slice (some ⟨lc.cb, lc.co + off, none⟩) n capn) z r h' := by
  obtain ⟨h1, hr⟩ := tst_eq.1 hr
  cases hr
  rw [band_eq, band_eq, Bool.and_eq_true, Bool.and_eq_true, bnot_eq, Bool.not_eq_true', natBle_eq, len_eq] at h1
  obtain ⟨⟨rfl, h1⟩, h2⟩ := h1
  have hoff : off / i.size * i.size = off := by have := Nat.div_add_mod' off i.size; omega
  obtain ⟨cs, lo, hi', g1, g2, g3, g4, g5⟩ := m.obj _ _ lc hb hl
  have hq : (off / i.size + n) * i.size = off + n * i.size := by rw [Nat.add_mul, hoff]
  have hq2 : (off / i.size + n + new.length) * i.size = off + (n + new.length) * i.size := by rw [Nat.add_assoc, Nat.add_mul, hoff]
  obtain ⟨w', cs', a1, a2, a3, a4, a5⟩ := store_lay (P := P) (size' := size) (q := off / i.size + n) g1 g5 hn (Nat.le_refl _) (by rw [hq2]; exact h1) (by rw [hq2]; omega) (fun j hj1 hj2 => by
    rw [hq] at hj1
    rw [hq2] at hj2
    cases fr with
    | clean => have g4 : lo = hi' := g4; omega
    | range a b' =>
      have g4 : lo ≤ hi' ∧ (lo < hi' → lc.co + a ≤ lo ∧ hi' ≤ lc.co + b') := g4
      have h2 : bor (Nat.ble (off + n * i.size + new.length * i.size) a) (Nat.ble b' (off + n * i.size)) = true := h2
      rw [bor_eq, Bool.or_eq_true, natBle_eq, natBle_eq] at h2
      rw [Nat.add_mul] at hj2
      intro hc
      have := g4.2 (by omega)
      omega
    | past => exact fun hc => g4 j (by unfold extOf; split <;> omega) hc)
  rw [hq] at a1
  have hrun := append_in (P := P) (ty := ty) ht hi hs hroom (by rw [Nat.add_assoc]; exact a1)
  obtain ⟨m2, s2⟩ := m.put (o' := .cells e false op i.size size fr (layRow new (off / i.size + n) c)) hb hl rfl a2 ⟨cs', lo, hi', a3, by rw [a4]; exact g2, by rw [a4]; exact g3, g4, a5⟩
  refine ⟨_, _, _, hrun, ?_, m2, s2⟩
  rw [len_eq]
  exact den_slc hl hcap'
theorem growOut_mem {ρ : Rho} {h h1 h' : AH} {w : World} {e : TypeId} {i : TypeInfo} {zv : Value} {lc : Loc} {n off cap size : Nat} {c : Q (List AV)} {cs : Array Value} {lo hi' : Nat} {new : List (List AV)} {news : List Value} {z : Value} {r : AV} (m : Mem P ρ h1 w) (hst : Step ρ h w ρ h1 w)
    (hfree : ρ h1.nx = none) (ht : P.underlying t = some (.slice e)) (hi : P.info? e = some i) (hz : i.zero = some zv) (hzl : zv.cells.size = i.size) (hb : i.bytes ≤ 65536) (hnb : n ≤ 1073741824) (hmb : new.length ≤ 1073741824)
    (hn : ElemsOk ρ i.size new news) (hs : Src P i.size tx z new.length news w) (g1 : w.heap[lc.cb]? = some (.cells cs e (lo, hi'))) (g5 : CellsOk ρ lc.co size cs (rowGet i.size c)) (hg : cap < n + new.length)
    (hr : growOut e h1 off n new i.size c = .ok (r, h')) : AppOk P ρ h w t tx ty (.slice (some ⟨lc.cb, lc.co + off, none⟩) n cap) z r h' := by
  obtain ⟨old, h2, hr⟩ := bind_eq.1 hr
  cases hr
  obtain ⟨xs, f1, f2, f3⟩ := elemsFrom_ok g5 h2
  have hxl : xs.length = n * i.size := by rw [f1.length, f2]
  rw [len_eq]
  refine app_new m hst hfree ht hi hz hzl hb hnb hmb hn hs hxl (fun w1 hw1 => ?_) hg (fun j v hv => ?_)
  · refine run_firstCells_some w1 i.size n _ _ _ xs hxl (fun j v hv => ?_)
    rw [addr_add, cell_of_block (by rw [hw1]; exact g1), (f3 j (List.getElem?_eq_some_iff.1 hv).1).2, hv]
  · obtain ⟨a1, a2, y, a3, a4⟩ := cellsOk_row f1 xs.toArray (fun i _ => by simp) j v hv
    rw [f2] at a1
    refine ⟨by rw [Nat.add_mul]; omega, fun _ => ⟨a2, y, by simpa using a3, a4⟩⟩
theorem free_of {ρ : Rho} {h h1 : AH} {o : AO} (hn : h1.nx = h.nx) (hf : Free ρ h (h1.alloc o)) : ρ h1.nx = none := hf _ (by rw [hn]; exact Nat.le_refl _) (by rw [nx_alloc]; omega)
theorem growAny_mem {ρ : Rho} {h h' : AH} {w : World} {e : TypeId} {i : TypeInfo} {zv : Value} {ro op : Bool} {b : Id} {lc : Loc} {n off k size : Nat} {c : Q (List AV)} {fr : Fr} {new : List (List AV)} {news : List Value} {z : Value} {r : AV}
    (m : Mem P ρ h w) (hfree : Free ρ h h') (hb : Q.get b h.tr = some (.cells e ro op i.size size fr c)) (hl : ρ b = some lc) (ht : P.underlying t = some (.slice e)) (hi : P.info? e = some i) (hz : i.zero = some zv) (hzl : zv.cells.size = i.size) (hbb : i.bytes ≤ 65536) (hnb : n ≤ 1073741824) (hmb : new.length ≤ 1073741824)
    (hn : ElemsOk ρ i.size new news) (hs : Src P i.size tx z new.length news w) (hoff : off = k * i.size) (_hes : 0 < i.size) (hkn : k + n ≤ lc.cap) (hsz : ¬ (off + (n + new.length) * i.size ≤ size))
    (hr : growAny e h b off n k new ro op i.size fr c = .ok (r, h')) :
    AppOk P ρ h w t tx ty (.slice (some ⟨lc.cb, lc.co + off, none⟩) n (lc.cap - k)) z r h' := by
  obtain ⟨h1, hr1⟩ := tst_eq.1 hr
  clear hr
  rw [band_eq, band_eq, Bool.and_eq_true, Bool.and_eq_true, bnot_eq, Bool.not_eq_true'] at h1
  obtain ⟨⟨rfl, rfl⟩, h2⟩ := h1
  obtain ⟨cs, lo, hi', g1, g2, g3, g4, g5⟩ := m.obj _ _ lc hb hl
  obtain ⟨g31, g32⟩ := g3 rfl
  obtain ⟨mk, sk⟩ := m.kill (b := b) hl
  have hmul : (k + n) * i.size ≤ lc.cap * i.size := Nat.mul_le_mul_right _ hkn
  rw [Nat.add_mul] at hmul
  have hnm : (n + new.length) * i.size = n * i.size + new.length * i.size := Nat.add_mul _ _ _
  rw [bsel_eq] at hr1
  split at hr1
  · rename_i hk0
    rw [natBeq_eq] at hk0
    subst hk0
    have hoff0 : off = 0 := by omega
    subst hoff0
    cases hr1
    simp only [len_eq] at hfree ⊢
    have hfn : ρ h.nx = none := free_of (h := h) (h1 := h.kill b) rfl hfree
    by_cases hroom : n + new.length ≤ lc.cap - 0
    · have hmul2 := Nat.mul_le_mul_right i.size hroom
      refine app_regrow (size0 := size) (k := 0) m hb hl rfl hfn ht hi hn hs hoff g1 g32 hroom (Nat.zero_le _) g5 (by omega) rfl (fun j hj1 hj2 => ?_) ?_
      · cases fr with
        | clean => have g4 : lo = hi' := g4; omega
        | range a b' =>
          have g4 : lo ≤ hi' ∧ (lo < hi' → lc.co + a ≤ lo ∧ hi' ≤ lc.co + b') := g4
          have h2 : bor (Nat.ble (0 + n * i.size + new.length * i.size) a) (Nat.ble b' (0 + n * i.size)) = true := by rw [← len_eq]; exact h2
          rw [bor_eq, Bool.or_eq_true, natBle_eq, natBle_eq] at h2
          intro hc
          have := g4.2 (by omega)
          omega
        | past => exact fun hc => g4 j (by unfold extOf; simp only [if_true]; simp only [Nat.sub_zero] at hmul2; omega) hc
      · cases fr with
        | clean => exact g4
        | range a b' => exact g4
        | past =>
          intro j hj
          refine g4 j ?_
          unfold extOf at hj ⊢
          simp only [if_true, Nat.sub_zero] at hj hmul2 ⊢
          omega
    · let olds : List Value := (cs.toList.drop lc.co).take (n * i.size)
      have hol : olds.length = n * i.size := by
        simp only [olds, List.length_take, List.length_drop, Array.length_toList]
        omega
      have hog : ∀ j, j < n * i.size → olds[j]? = cs[lc.co + j]? := by
        intro j hj
        simp only [olds]
        rw [List.getElem?_take_of_lt hj, List.getElem?_drop, Array.getElem?_toList]
      refine app_new (h1 := h.kill b) mk sk hfn ht hi hz hzl hbb hnb hmb hn hs hol (fun w1 hw1 => ?_) (by omega) (fun j v hv => ?_)
      · refine run_firstCells_some w1 i.size n _ _ _ olds hol (fun j v hv => ?_)
        have hj := (List.getElem?_eq_some_iff.1 hv).1
        rw [hog j (by omega)] at hv
        rw [addr_add, cell_of_block (by rw [hw1]; exact g1)]
        exact hv
      · obtain ⟨a1, a2, y, a3, a4⟩ := g5 j v hv
        exact ⟨by omega, fun hj => ⟨a2, y, by rw [hog j hj]; exact a3, a4⟩⟩
  · cases fr with
    | clean =>
      have g4 : lo = hi' := g4
      subst g4
      have hr : growOut e (h.kill b) off n new i.size c = .ok (r, h') := hr1
      have hr' := hr
      obtain ⟨old, h3, hr2⟩ := bind_eq.1 hr
      cases hr2
      have hfn : ρ h.nx = none := free_of (h := h) (h1 := h.kill b) rfl hfree
      by_cases hroom : n + new.length ≤ lc.cap - k
      · obtain ⟨xs, f1, f2, f3⟩ := elemsFrom_ok g5 h3
        rw [len_eq]
        refine app_regrow (size0 := n * i.size) (k := k) m hb hl rfl hfn ht hi hn hs hoff g1 g32 hroom (by omega) ?_ (by omega) rfl (fun j _ _ => by omega) rfl
        rw [← f2]
        exact cellsOk_row' f1 _ _ fun j hj => (f3 j hj).2
      · exact growOut_mem mk sk hfn ht hi hz hzl hbb hnb hmb hn hs g1 g5 (by omega) hr'
    | range a b' => cases hr1
    | past => cases hr1
theorem appendA_mem {ρ : Rho} {h h' : AH} {w : World} {e : TypeId} {i : TypeInfo} {zv : Value} {v u r : AV} {vv z : Value} {new : List (List AV)} (m : Mem P ρ h w) (hfree : Free ρ h h') (ht : P.underlying t = some (.slice e)) (hi : P.info? e = some i) (hz : i.zero = some zv)
    (hzl : zv.cells.size = i.size) (hbb : i.bytes ≤ 65536) (hk : (∃ e', P.underlying tx = some (.slice e')) ∨ P.underlying tx = some .string) (hv : den ρ v = some vv) (hu : den ρ u = some z) (hsrc : srcA i.size h u = .ok new) (hr : appendA e i.size h v new = .ok (r, h')) :
    AppOk P ρ h w t tx ty vv z r h' := by
  obtain ⟨news, hn, hs1, hs0⟩ := srcA_ok m hk hu hsrc
  cases new with
  | nil => exact appendA_nil m ht hi hv (hs0 rfl) hr
  | cons n0 new' =>
    have hs := hs1 (by simp)
    generalize hnew : n0 :: new' = new at *
    have hpos : 0 < new.length := by rw [← hnew]; simp
    have hr : tst 117 (Nat.ble (len new) 1073741824) (match v with
    | .slc0 => fresh e i.size h (len new) (layRow new 0 .nil)
    | .slc b off n cap => (h.obj b).bind (onRow 128 fun e1 ro op es' size fr c => tst 129 (band (Nat.beq e e1) (band (Nat.beq i.size es') (band (Nat.beq (off % i.size) 0) (Nat.ble n 1073741824))))
        (match cap with
         | .exact m => bsel (Nat.ble (n + len new) m) (growIn h b off n cap new e1 ro op i.size size fr c) (growOut e h off n new i.size c)
         | .room k => tst 118 (band (band op (Nat.beq off (k * i.size))) (Nat.blt 0 i.size)) (bsel (Nat.ble (off + (n + len new) * i.size) size) (growIn h b off n cap new e1 ro op i.size size fr c) (growAny e h b off n k new ro op i.size fr c))))
    | .slcE b _ off1 k => (h.obj b).bind (onRow 130 fun e1 ro op es' _ fr _ => tst 131 (band (Nat.beq e e1) (band (Nat.beq off1 (k * i.size)) (band op (band (bnot ro) (Nat.beq i.size es')))))
        (Fr.rec (motive := fun _ => R (AV × AH)) (fresh e i.size (h.kill b) (len new) (layRow new 0 .nil)) (fun _ _ => .err [132]) (.err [133]) fr))
    | _ => .err [134]) = .ok (r, h') := by rw [← hnew]; rw [← hnew] at hr; exact hr
    obtain ⟨hmb, hr1⟩ := tst_eq.1 hr
    clear hr
    rw [natBle_eq, len_eq] at hmb
    split at hr1
    · have hr1 : R.ok (AV.slc h.nx 0 (len new) (.room 0), h.alloc (.cells e false true i.size (len new * i.size) .clean (layRow new 0 .nil))) = .ok (r, h') := hr1
      cases hr1
      rw [den_slc0] at hv; cases hv
      simp only [len_eq] at hfree ⊢
      have := app_new (P := P) (ty := ty) (base := none) (n := 0) (cap := 0) (c := .nil) (fr := .clean) (olds := []) m (Step.refl ρ h w) (free_of (h := h) (h1 := h) rfl hfree) ht hi hz hzl hbb (by omega) hmb hn hs (by simp) (fun w1 _ => run_firstCells_none w1 i.size 0 0 0) (by omega) (fun j v hv => by simp [rowGet] at hv)
      simpa only [Nat.zero_add] using this
    · rename_i b off n cap
      obtain ⟨o, h1, hr2⟩ := bind_eq.1 hr1
      have h1 := Q.at_eq.1 h1
      obtain ⟨e1, ro, op, es', size, fr, c, rfl, hr3⟩ := onRow_eq.1 hr2
      obtain ⟨h3, hr4⟩ := tst_eq.1 hr3
      rw [band_eq, band_eq, band_eq, Bool.and_eq_true, Bool.and_eq_true, Bool.and_eq_true, natBeq_eq, natBeq_eq, natBeq_eq, natBle_eq] at h3
      obtain ⟨rfl, rfl, h31, h32⟩ := h3
      obtain ⟨lc, capn, hl, rfl, hc⟩ := den_slc_eq hv
      obtain ⟨cs, lo, hi', g1, g2, g3, g4, g5⟩ := m.obj _ _ lc h1 hl
      cases cap with
      | exact q =>
        have hc : capn = q := hc
        subst hc
        have hr4 : bsel (Nat.ble (n + len new) capn) (growIn h b off n (.exact capn) new e ro op i.size size fr c) (growOut e h off n new i.size c) = .ok (r, h') := hr4
        rw [bsel_eq] at hr4
        split at hr4
        · rename_i h5
          rw [natBle_eq, len_eq] at h5
          exact growIn_mem m h1 hl ht hi hn hs h31 (cap := .exact capn) rfl h5 rfl hr4
        · rename_i h5
          rw [natBle_eq, len_eq] at h5
          refine growOut_mem m (Step.refl ρ h w) ?_ ht hi hz hzl hbb h32 hmb hn hs g1 g5 (by omega) hr4
          obtain ⟨old, _, hr5⟩ := bind_eq.1 hr4
          cases hr5
          exact free_of (h := h) (h1 := h) rfl hfree
      | room q =>
        obtain ⟨rfl, hkn⟩ := hc
        have hr4 : tst 118 (band (band op (Nat.beq off (q * i.size))) (Nat.blt 0 i.size)) (bsel (Nat.ble (off + (n + len new) * i.size) size) (growIn h b off n (.room q) new e ro op i.size size fr c) (growAny e h b off n q new ro op i.size fr c)) = .ok (r, h') := hr4
        obtain ⟨h6, hr5⟩ := tst_eq.1 hr4
        rw [band_eq, band_eq, Bool.and_eq_true, Bool.and_eq_true, natBeq_eq, natBlt_eq] at h6
        obtain ⟨⟨rfl, h61⟩, h62⟩ := h6
        rw [bsel_eq] at hr5
        split at hr5
        · rename_i h5
          rw [natBle_eq, len_eq] at h5
          have hle : q + (n + new.length) ≤ lc.cap := by
            have a1 := (g3 rfl).1
            have : (q + (n + new.length)) * i.size ≤ lc.cap * i.size := by rw [Nat.add_mul]; omega
            exact Nat.le_of_mul_le_mul_right this h62
          exact growIn_mem m h1 hl ht hi hn hs h31 (cap := .room q) ⟨rfl, hkn⟩ (by omega) ⟨rfl, hle⟩ hr5
        · rename_i h5
          rw [natBle_eq, len_eq] at h5
          exact growAny_mem m hfree h1 hl ht hi hz hzl hbb h32 hmb hn hs h61 h62 hkn h5 hr5
    · rename_i b o0 off1 q
      obtain ⟨o, h1, hr2⟩ := bind_eq.1 hr1
      have h1 := Q.at_eq.1 h1
      obtain ⟨e1, ro, op, es', size, fr, c, rfl, hr3⟩ := onRow_eq.1 hr2
      obtain ⟨h3, hr4⟩ := tst_eq.1 hr3
      rw [band_eq, band_eq, band_eq, band_eq, Bool.and_eq_true, Bool.and_eq_true, Bool.and_eq_true, Bool.and_eq_true, natBeq_eq, natBeq_eq, natBeq_eq, bnot_eq, Bool.not_eq_true'] at h3
      obtain ⟨rfl, h31, rfl, rfl, rfl⟩ := h3
      cases fr with
      | clean =>
        have hr4 : R.ok (AV.slc h.nx 0 (len new) (.room 0), (h.kill b).alloc (.cells e false true i.size (len new * i.size) .clean (layRow new 0 .nil))) = .ok (r, h') := hr4
        cases hr4
        simp only [den, Option.map_eq_some_iff] at hv
        obtain ⟨lc, hl, rfl⟩ := hv
        obtain ⟨cs, lo, hi', g1, g2, g3, g4, g5⟩ := m.obj _ _ lc h1 hl
        obtain ⟨g31, g32⟩ := g3 rfl
        have g4 : lo = hi' := g4
        subst g4
        obtain ⟨mk, sk⟩ := m.kill (b := b) hl
        simp only [len_eq] at hfree ⊢
        have hfn : ρ h.nx = none := free_of (h := h) (h1 := h.kill b) rfl hfree
        have fresh' : ∀ (a : Addr) (cap : Nat), cap < new.length → AppOk P ρ h w t tx ty (.slice (some a) 0 cap) z (.slc h.nx 0 new.length (.room 0)) ((h.kill b).alloc (.cells e false true i.size (new.length * i.size) .clean (layRow new 0 .nil))) := by
          intro a cap hcap
          have := app_new (P := P) (ty := ty) (h1 := h.kill b) (base := some a) (n := 0) (cap := cap) (c := .nil) (fr := .clean) (olds := []) mk sk hfn ht hi hz hzl hbb (by omega) hmb hn hs (by simp) (fun w1 _ => run_firstCells_some w1 i.size 0 a 0 cap [] (by simp) (by intro _ _ h'; simp at h')) (by omega) (fun j v hv => by simp [rowGet] at hv)
          simpa only [Nat.zero_add, nx_kill] using this
        split
        · exact fresh' _ 0 hpos
        · by_cases hroom : new.length ≤ lc.cap - q
          · have := app_regrow (P := P) (ty := ty) (size0 := 0) (k := q) (n := 0) (c := .nil) (fr' := .clean) (size' := (0 + new.length) * i.size) m h1 hl rfl hfn ht hi hn hs h31 g1 g32 (by omega) (by omega) (fun j v hv => by simp [rowGet] at hv) (Nat.zero_le _) rfl (fun j _ _ => by omega) rfl
            simpa only [Nat.zero_add] using this
          · exact fresh' _ _ (by omega)
      | range a b' => cases hr4
      | past => cases hr4
    · cases hr1
end
end Go.AX
/- The abstract executor: append, strings over bytes, calls: as operations. -/
namespace Go.AX
section
variable {P : Program} {X : Ext} {E : CE} {k : OpK} {x y : Operand} {dst : Option Tmp} {ty : TypeId} {pos : String} {after : Array Edge} {g : Option (Nat × Bool)} {t tx : TypeId}

theorem append_ok {e : TypeId} {i : TypeInfo} {zv : Value} {f f' : Opd} (ht : P.underlying t = some (.slice e)) (hk : (∃ e', P.underlying tx = some (.slice e')) ∨ P.underlying tx = some .string) (hi : P.info? e = some i) (hz : i.zero = some zv)
    (hzl : zv.cells.size = i.size) (hbb : i.bytes ≤ 65536) (hf : E.opd x = .ok f) (hf' : E.opd y = .ok f') : KOk P X ⟨dst, .call ⟨.builtin .append, #[x, y], #[t, tx]⟩, ty, pos, after, g⟩ E (.mem (appendF e i.size f f')) := by
  intro call hcall ρ l tm h w a v h' m hfree ho hh next Qx hnext
  obtain ⟨v1, e1, hh1⟩ := bind_eq.1 hh
  obtain ⟨u1, e2, hh2⟩ := bind_eq.1 hh1
  obtain ⟨new, e3, hh3⟩ := bind_eq.1 hh2
  have a1 := ho x (by simp [Op.operands, Call.operands]) _ _ hf e1
  have a2 := ho y (by simp [Op.operands, Call.operands]) _ _ hf' e2
  obtain ⟨w', u, ρ', b1, b2, b3, b4⟩ := appendA_mem (ty := ty) (tx := tx) m hfree ht hi hz hzl hbb hk a1 a2 e3 hh3
  have : (execOp a.eval ⟨dst, .call ⟨.builtin .append, #[x, y], #[t, tx]⟩, ty, pos, after, g⟩).run P w = .ok (.value u) w' := by
    simp only [execOp, resolve, List.map_toArray, List.map_cons, List.map_nil]
    simp [invoke, builtin, b1]
  show Oper.upon P _ a next Qx _
  rw [this, Oper.upon_value]
  exact hnext ρ' w' _ b4 b3 b2
theorem unsafeString_ok {e : TypeId} {f f' : Opd} (hp : P.underlying t = some (.pointer e)) (hc : P.cellsOf e = 1) (hf : E.opd x = .ok f) (hf' : E.opd y = .ok f') :
    KOk P X ⟨dst, .call ⟨.builtin .unsafeString, #[x, y], #[t, tx]⟩, ty, pos, after, g⟩ E (.mem (unsafeStringF e f f')) := by
  intro call hcall ρ l tm h w a v h' m hfree ho hh next Qx hnext
  obtain ⟨v1, e1, hh1⟩ := bind_eq.1 hh
  obtain ⟨u1, e2, hh2⟩ := bind_eq.1 hh1
  have a1 := ho x (by simp [Op.operands, Call.operands]) _ _ hf e1
  have a2 := ho y (by simp [Op.operands, Call.operands]) _ _ hf' e2
  obtain ⟨w', u, b1, b2, b3, b4⟩ := unsafeString_mem (ty := ty) (it := tx) m hp hc a1 a2 hh2
  have : (execOp a.eval ⟨dst, .call ⟨.builtin .unsafeString, #[x, y], #[t, tx]⟩, ty, pos, after, g⟩).run P w = .ok (.value u) w' := by
    simp only [execOp, resolve, List.map_toArray, List.map_cons, List.map_nil]
    simp [invoke, builtin, b1]
  show Oper.upon P _ a next Qx _
  rw [this, Oper.upon_value]
  exact hnext ρ w' _ b4 b3 b2
theorem call_ok {f : FuncId} {args : Array Operand} {ts : Array TypeId} {q : List Opd} (hq : E.opdL args.toList = .ok q) : KOk P X ⟨dst, .call ⟨.value (.func f), args, ts⟩, ty, pos, after, g⟩ E (.mem (callF f q)) := by
  intro call hcall ρ l tm h w a v h' m hfree ho hh next Qx hnext
  obtain ⟨vs, e1, hh1⟩ := bind_eq.1 hh
  have a1 := opdL_ok (ρ := ρ) (ev := a.eval) hq e1 (fun z hz => ho z (by simp [Op.operands, Call.operands]; right; simpa using hz))
  have : (execOp a.eval ⟨dst, .call ⟨.value (.func f), args, ts⟩, ty, pos, after, g⟩).run P w = (callFunc f (args.toList.map a.eval).toArray).run P w := by
    simp only [execOp, resolve]
    have e : a.eval (.func f) = .func (.func f) #[] #[] := rfl
    rw [e]
    simp only [Deferred.ofValue, invoke, Sem.run_bind, Sem.run_pure, Result.andThen_ok]
    congr 2
    apply Array.ext'
    simp
  show Oper.upon P _ a next Qx _
  rw [this]
  exact hcall.now f vs h v h' hh1 ρ w _ m hfree a1 _ a next Qx hnext
theorem callV_ok {args : Array Operand} {ts : Array TypeId} {fx : Opd} {q : List Opd} (_hx : ∀ f, x ≠ .func f) (hf : E.opd x = .ok fx) (hq : E.opdL args.toList = .ok q) : KOk P X ⟨dst, .call ⟨.value x, args, ts⟩, ty, pos, after, g⟩ E (.mem (callVF fx q)) := by
  intro call hcall ρ l tm h w a v h' m hfree ho hh next Qx hnext
  obtain ⟨fv, e0, hh0⟩ := bind_eq.1 hh
  obtain ⟨f, first, cap, rfl, hh1⟩ := onFunc_eq.1 hh0
  obtain ⟨vs, e1, hh2⟩ := bind_eq.1 hh1
  have a0 := ho x (by simp [Op.operands, Call.operands]) _ _ hf e0
  obtain ⟨xs, ys, d1, d2, d3⟩ := den_func_eq a0
  have a1 := opdL_ok (ρ := ρ) (ev := a.eval) hq e1 (fun z hz => ho z (by simp [Op.operands, Call.operands]; right; simpa using hz))
  have : (execOp a.eval ⟨dst, .call ⟨.value x, args, ts⟩, ty, pos, after, g⟩).run P w = (callFunc f (xs ++ args.toList.map a.eval ++ ys).toArray).run P w := by
    simp only [execOp, resolve, d3]
    simp only [Deferred.ofValue, invoke, Sem.run_bind, Sem.run_pure, Result.andThen_ok]
    congr 2
    apply Array.ext'
    simp
  show Oper.upon P _ a next Qx _
  rw [this]
  refine hcall.now f _ h v h' hh2 ρ w _ m hfree ?_ _ a next Qx hnext
  rw [app_eq, app_eq]
  exact denL_app (denL_app d1 a1) d2
end
end Go.AX
/- The abstract executor: a string as bytes: it is the model's. -/
namespace Go.AX
section
variable {P : Program} {X : Ext} {E : CE} {dst : Option Tmp} {ty : TypeId} {pos : String} {after : Array Edge} {g : Option (Nat × Bool)} {x : Operand}
theorem strL_elems {ρ : Rho} {l : List AV} {s : List UInt8} (a1 : denL ρ l = some (s.map fun b => Value.int .u8 (b.toNat : Int))) : ElemsOk ρ 1 (l.map fun v => [v]) (byteCells ⟨s.toArray⟩) := by
  have hfl : (l.map fun v => [v]).flatten = l := flatten_ones l
  refine ⟨?_, fun u hu' => ?_⟩
  · rw [hfl, a1]
    unfold byteCells
    simp
  · obtain ⟨v, hv, rfl⟩ := List.mem_map.1 hu'
    refine ⟨rfl, ?_⟩
    obtain ⟨i, hi, rfl⟩ := List.mem_iff_getElem.1 hv
    obtain ⟨y, h4, h5⟩ := denL_get a1 i l[i] (List.getElem?_eq_getElem hi)
    simp only [List.getElem?_map, Option.map_eq_some_iff] at h4
    obtain ⟨b, _, rfl⟩ := h4
    simp only [List.all_cons, List.all_nil, Bool.and_true]
    cases hl : l[i] with
    | agg q => rw [hl] at h5; obtain ⟨_, _, _, h⟩ := den_agg_eq h5; cases h
    | tuple q => rw [hl] at h5; obtain ⟨_, _, h⟩ := den_tuple_eq h5; cases h
    | _ => rfl
theorem strBytes_ok {ρ : Rho} {v : AV} {y : Value} {new : List (List AV)} (h : strBytes v = .ok new) (hy : den ρ v = some y) : ∃ s : ByteArray, y = .string s ∧ new.length = s.size ∧ ElemsOk ρ 1 new (byteCells s) := by
  unfold strBytes at h
  split at h
  · rename_i l n
    cases h
    rw [den_str] at hy
    cases hy
    obtain ⟨a1, a2⟩ := bytesA_elems ρ l n
    exact ⟨_, rfl, by rw [a1, bytesOf_size], a2⟩
  · rename_i l
    cases h
    obtain ⟨s, a1, rfl, a3⟩ := den_strL_eq hy
    exact ⟨_, rfl, by rw [List.length_map, ← a3]; show s.length = s.toArray.size; simp, strL_elems a1⟩
  · cases h
theorem modify_push {α : Type} (a : Array α) (o : α) (f : α → α) : (a.push o).modify a.size f = a.push (f o) := by
  apply Array.ext
  · simp
  · intro i h1 h2
    rw [Array.getElem_modify]
    simp only [Array.size_push] at h2
    by_cases hi : a.size = i
    · subst hi; simp
    · rw [if_neg hi, Array.getElem_push_lt (by omega), Array.getElem_push_lt (by omega)]
theorem bytesWorld_eq (w : World) (e : TypeId) (s : ByteArray) : Lib.bytesWorld w e s = w.drew.alloc (.cells (Lib.bytesCells w e s) e ((Lib.bytesCells w e s).size, (Lib.bytesCells w e s).size + 1)) := by
  unfold Lib.bytesWorld World.freeze
  rw [if_neg (by decide)]
  have key := modify_push w.heap (Obj.cells (Lib.bytesCells w e s) e (0, 0)) (fun x => match x with
    | .cells c elem (lo, hi) => .cells c elem (if (lo == hi) = true then ((Lib.bytesCells w e s).size, (Lib.bytesCells w e s).size + 1) else (min lo (Lib.bytesCells w e s).size, max hi ((Lib.bytesCells w e s).size + 1)))
    | o => o)
  exact congrArg (fun hp => ({ w.drew with heap := hp } : World)) key
theorem bytesConv_ok {sd : TypeDesc} {st dt e : TypeId} {f : Opd} (hs : P.underlying st = some sd) (hd : P.underlying dt = some (.slice e)) (he : P.underlying e = some (.int .u8)) (hf : E.opd x = .ok f) :
    KOk P X ⟨dst, .convert st dt x, ty, pos, after, g⟩ E (.mem (bytesConvF e f)) := by
  intro call hcall ρ l tm h w a v h' m hfree ho hh next Qx hnext
  obtain ⟨u, e1, hh1⟩ := bind_eq.1 hh
  obtain ⟨new, e2, hh2⟩ := bind_eq.1 hh1
  cases hh2
  have a1 := ho x (by simp [Op.operands]) _ _ hf e1
  obtain ⟨s, a2, a3, a4⟩ := strBytes_ok e2 a1
  have hrun := Lib.run_convert_string_bytes (P := P) w st dt e s hs hd he
  rw [bytesWorld_eq] at hrun
  have hnx : ρ h.nx = none := hfree h.nx (Nat.le_refl _) (by rw [nx_alloc]; omega)
  obtain ⟨m1, s1⟩ := m.drawn (drew_drawn w)
  have hle := Rho.le_upd ρ ⟨w.heap.size, 0, grownCap w s.size 0 e⟩ hnx
  have hN : s.size ≤ grownCap w s.size 0 e := grownCap_ge w s.size 0 e
  have hcs : (Lib.bytesCells w e s).size = grownCap w s.size 0 e := by
    unfold Lib.bytesCells
    rw [Array.size_append, Array.size_map, Array.size_replicate]
    have : s.data.size = s.size := rfl
    omega
  have hobj : ObjOk (ρ.upd h.nx ⟨w.drew.heap.size, 0, grownCap w s.size 0 e⟩) ⟨w.drew.heap.size, 0, grownCap w s.size 0 e⟩ (w.drew.alloc (.cells (Lib.bytesCells w e s) e ((Lib.bytesCells w e s).size, (Lib.bytesCells w e s).size + 1))) (.cells e false true 1 (len new) .past (layRow new 0 .nil)) := by
    have hrow := newRow_ok (ρ := ρ) (n := 0) (c := .nil) (olds := []) (cs := Lib.bytesCells w e s) a4 (by simp) (fun j hj => by
      unfold Lib.bytesCells
      rw [List.nil_append, Array.getElem?_append_left]
      · unfold byteCells
        simp
      · rw [List.nil_append, byteCells_length] at hj
        rw [Array.size_map]; exact hj) (fun i v hv => by simp [rowGet] at hv)
    rw [len_eq, a3]
    refine ⟨Lib.bytesCells w e s, _, _, alloc_new _ _, by rw [hcs]; simp only; omega, fun _ => ⟨by simp only; omega, by rw [hcs]; simp⟩, fun i hi => ?_, ?_⟩
    · unfold extOf at hi
      simp only [if_true, Nat.mul_one] at hi
      simp only
      omega
    · have := hrow.mono hle
      simpa [a3] using this
  obtain ⟨m2, s2⟩ := m1.alloc hnx (grownCap w s.size 0 e) _ hobj
  have : (execOp a.eval ⟨dst, .convert st dt x, ty, pos, after, g⟩).run P w = .ok (.value (.slice (some ⟨w.heap.size, 0, none⟩) s.size (grownCap w s.size 0 e))) (w.drew.alloc (.cells (Lib.bytesCells w e s) e ((Lib.bytesCells w e s).size, (Lib.bytesCells w e s).size + 1))) := by
    simp only [execOp]
    refine exec_v ?_
    rw [a2]
    exact hrun
  show Oper.upon P _ a next Qx _
  rw [this, Oper.upon_value]
  refine hnext _ _ _ (s1.trans s2) m2 ?_
  rw [len_eq, a3]
  exact den_slc (c := .room 0) (Rho.upd_same _ _ _) ⟨(Nat.sub_zero _).symm, by simpa using hN⟩
theorem row_cells {ρ : Rho} {w : World} {lc : Loc} {e : TypeId} {ro op : Bool} {es size off n : Nat} {fr : Fr} {c : Q (List AV)} {l : List AV} (ho : ObjOk ρ lc w (.cells e ro op es size fr c)) (h4 : cellsFrom es c n off = .ok l) :
    ∃ ys, denL ρ l = some ys ∧ ∀ j y, ys[j]? = some y → w.cell? ((⟨lc.cb, lc.co + off, none⟩ : Addr).add j) = some y := by
  obtain ⟨f1, f2⟩ := cellsFrom_eq h4
  have hone : ∀ j (v : AV), l[j]? = some v → ∃ y, w.cell? ((⟨lc.cb, lc.co + off, none⟩ : Addr).add j) = some y ∧ den ρ v = some y := by
    intro j v hv
    obtain ⟨y, q1, q2, _⟩ := cell_row ho (f2 j v hv)
    refine ⟨y, ?_, q2⟩
    rw [addr_add, Nat.add_assoc]
    exact q1
  let g : Nat → Value := fun j => (w.cell? ((⟨lc.cb, lc.co + off, none⟩ : Addr).add j)).getD undef
  refine ⟨(List.range l.length).map g, denL_of_get (by simp) fun j v y hv hy => ?_, fun j y hy => ?_⟩
  · obtain ⟨y', h1, h2⟩ := hone j v hv
    have hj := (List.getElem?_eq_some_iff.1 hv).1
    simp only [List.getElem?_map, List.getElem?_range hj, Option.map_some, Option.some.injEq] at hy
    rw [← hy, show g j = y' by simp only [g, h1, Option.getD_some]]
    exact h2
  · have hj : j < l.length := by have := (List.getElem?_eq_some_iff.1 hy).1; simpa using this
    obtain ⟨y', h1, h2⟩ := hone j l[j] (List.getElem?_eq_getElem hj)
    simp only [List.getElem?_map, List.getElem?_range hj, Option.map_some, Option.some.injEq] at hy
    rw [← hy, show g j = y' by simp only [g, h1, Option.getD_some]]
    exact h1
theorem bytesStr_ok {st dt e : TypeId} {k : OpK} (hs : P.underlying st = some (.slice e)) (hd : P.underlying dt = some .string) (he : P.underlying e = some (.int .u8)) (hk : E.rd1 bytesStrA x = .ok k) :
    KOk P X ⟨dst, .convert st dt x, ty, pos, after, g⟩ E k :=
  rd1_ok hk (by simp [Op.operands]) fun ρ h v u ev w m h1 h2 => by
    have zero : ∀ (a : Addr) (cap : Nat), (convert st dt (.slice (some a) 0 cap)).run P w = .ok (.string ⟨#[]⟩) w := fun a cap =>
      Go.run_convert_bytes_back w st dt e a cap [] hs he hd (fun j hj => by simp at hj)
    have z0 : den ρ (.str 0 0) = some (.string ⟨#[]⟩) := by rw [den_str]; rfl
    unfold bytesStrA at h1
    split at h1
    · rename_i b off n cp
      obtain ⟨o, h3, h4⟩ := bind_eq.1 h1
      have h3 := Q.at_eq.1 h3
      obtain ⟨lc, cap, hl, hx, _⟩ := den_slc_eq h2
      have ho := m.obj _ _ lc h3 hl
      have fin : ∀ (l : List AV) (ys : List Value), strOfA l = .ok u → l.length = n → denL ρ l = some ys → (∀ j y, ys[j]? = some y → w.cell? ((⟨lc.cb, lc.co + off, none⟩ : Addr).add j) = some y) → ∃ r, den ρ u = some r ∧ (execOp ev ⟨dst, .convert st dt x, ty, pos, after, g⟩).run P w = .ok (.value r) w := by
        intro l ys h7 f1 y1 y2
        obtain ⟨bs, b1, b2⟩ := strOfA_ok h7 y1
        have hbl : bs.length = n := by
          have h1 := denL_length y1
          rw [b1, List.length_map] at h1
          rw [h1, f1]
        refine ⟨_, b2, ?_⟩
        simp only [execOp]
        refine exec_v ?_
        rw [hx, ← hbl]
        refine Go.run_convert_bytes_back w st dt e _ cap bs hs he hd fun j hj => ?_
        refine y2 j _ ?_
        rw [b1, List.getElem?_map, List.getElem?_eq_getElem hj]; rfl
      rcases onBox_eq.1 h4 with ⟨e', ro, c, rfl, h5⟩ | ⟨e', ro, op, es, size, fr, c, rfl, h5⟩
      · obtain ⟨h6, h7⟩ := tst_eq.1 h5
        rw [natBle_eq, len_eq] at h6
        rw [takeN_eq, dropN_eq] at h7
        obtain ⟨cs, e'', z, g1, g2, g3, g4⟩ := ho
        have hone : ∀ j (v : AV), ((c.drop off).take n)[j]? = some v → ∃ y, w.cell? ((⟨lc.cb, lc.co + off, none⟩ : Addr).add j) = some y ∧ den ρ v = some y := by
          intro j v hv
          have hj : j < n := by have := (List.getElem?_eq_some_iff.1 hv).1; rw [List.length_take] at this; omega
          rw [List.getElem?_take, if_pos hj, List.getElem?_drop] at hv
          obtain ⟨_, _, y, q1, q2⟩ := g4 (off + j) v hv
          refine ⟨y, ?_, q2⟩
          rw [addr_add, cell_of_block g1, Nat.add_assoc]
          exact q1
        let gv : Nat → Value := fun j => (w.cell? ((⟨lc.cb, lc.co + off, none⟩ : Addr).add j)).getD undef
        have hlen : ((c.drop off).take n).length = n := by rw [List.length_take, List.length_drop]; omega
        refine fin _ ((List.range n).map gv) h7 hlen (denL_of_get (by simp [hlen]) fun j v y hv hy => ?_) (fun j y hy => ?_)
        · obtain ⟨y', k1, k2⟩ := hone j v hv
          have hj := (List.getElem?_eq_some_iff.1 hv).1
          rw [hlen] at hj
          simp only [List.getElem?_map, List.getElem?_range hj, Option.map_some, Option.some.injEq] at hy
          rw [← hy, show gv j = y' by simp only [gv, k1, Option.getD_some]]
          exact k2
        · have hj : j < n := by have := (List.getElem?_eq_some_iff.1 hy).1; simpa using this
          obtain ⟨y', k1, k2⟩ := hone j ((c.drop off).take n)[j] (List.getElem?_eq_getElem (by omega))
          simp only [List.getElem?_map, List.getElem?_range hj, Option.map_some, Option.some.injEq] at hy
          rw [← hy, show gv j = y' by simp only [gv, k1, Option.getD_some]]
          exact k1
      · obtain ⟨l, h6, h7⟩ := bind_eq.1 h5
        obtain ⟨f1, _⟩ := cellsFrom_eq h6
        obtain ⟨ys, y1, y2⟩ := row_cells ho h6
        exact fin l ys h7 f1 y1 y2
    · cases h1
      rw [den_slc0] at h2
      refine ⟨_, z0, ?_⟩
      simp only [execOp]
      refine exec_v ?_
      rw [← Option.some.inj h2, Go.run_convert_bytes_string w st dt e none 0 0 hs he hd]
      rfl
    · cases h1
      simp only [den, Option.map_eq_some_iff] at h2
      obtain ⟨lc, hl, hx⟩ := h2
      refine ⟨_, z0, ?_⟩
      simp only [execOp]
      refine exec_v ?_
      rw [← hx]
      split <;> exact zero _ _
    · cases h1
theorem entries_erase {ρ : Rho} {es : List AE} {xs : List MapEntry} (he : EntriesOk ρ es xs) (j : Nat) : EntriesOk ρ (es.eraseIdx j) (xs.eraseIdx j) := by
  refine ⟨?_, fun i e x h1 h2 => ?_⟩
  · rw [List.length_eraseIdx, List.length_eraseIdx, he.1]
  · rw [List.getElem?_eraseIdx] at h1 h2
    split at h1
    · rename_i hlt
      rw [if_pos hlt] at h2
      exact he.2 i e x h1 h2
    · rename_i hlt
      rw [if_neg hlt] at h2
      exact he.2 (i + 1) e x h1 h2
theorem del_mem {ρ : Rho} {h : AH} {w : World} {t kt et tk : TypeId} {eq : AV → AV → R Bool} {ma ka : AV} {mv kv : Value} {r : AV} {h' : AH} (m : Mem P ρ h w) (hd : P.underlying t = some (.map kt et)) (hk : KeyFits P kt eq)
    (hm : den ρ ma = some mv) (hkv : den ρ ka = some kv) (hr : delA eq h ma ka = .ok (r, h')) :
    ∃ w', (Builtin.delete_ #[t, tk] ty #[mv, kv]).run P w = .ok undef w' ∧ r = .undef ∧ Mem P ρ h' w' ∧ Step ρ h w ρ h' w' := by
  obtain ⟨d, hd', hf, hck⟩ := hk.ex
  unfold delA at hr
  obtain ⟨_, hself, hr⟩ := bind_eq.1 hr
  have hck' : ∀ e, (Instr.checkKey e 10000 kt kv).run P w = .ok () w := fun e => hck ρ ka _ kv hself hkv w e
  split at hr
  · obtain ⟨o, h1, hr⟩ := bind_eq.1 hr
    obtain ⟨o', h2, hr⟩ := bind_eq.1 hr
    cases hr
    have h1 := AX.Q.at_eq.1 h1
    obtain ⟨es, c, rfl, h2⟩ := onMapO_eq.1 h2
    obtain ⟨q, h3, h2⟩ := bind_eq.1 h2
    obtain ⟨lc, hl, rfl⟩ := den_map_eq ρ hm
    obtain ⟨xs, g1, g2⟩ := map_mem m hl h1
    have hfa := findA_ok hd' hf hkv es xs.toList q g2 h3
    cases q with
    | none =>
      have h2 : R.ok (AO.map es c) = R.ok o' := h2
      cases h2
      simp only at hfa
      have hrun : (Builtin.delete_ #[t, tk] ty #[.map (some lc.cb), kv]).run P w = .ok undef { w with heap := w.heap.setIfInBounds lc.cb (.map xs c) } := by
        simp [Builtin.delete_, run_underlying hd, run_getObj_map g1, hck', hfa, run_setObj_map g1]
        rfl
      exact ⟨_, hrun, rfl, m.put h1 hl rfl (only_setObj w _ _) ⟨xs, setObj_at g1 _, g2⟩⟩
    | some p =>
      obtain ⟨j, v0⟩ := p
      have h2 : R.ok (AO.map (es.eraseIdx j) c) = R.ok o' := h2
      cases h2
      obtain ⟨e0, m0, _, a2, a3, a4, a5, a6, a7⟩ := hfa
      have hrun : (Builtin.delete_ #[t, tk] ty #[.map (some lc.cb), kv]).run P w = .ok undef { w with heap := w.heap.setIfInBounds lc.cb (.map (xs.eraseIdxIfInBounds j) c) } := by
        simp [Builtin.delete_, run_underlying hd, run_getObj_map g1, hck', a5, run_setObj_map g1]
        rfl
      refine ⟨_, hrun, rfl, m.put h1 hl rfl (only_setObj w _ _) ⟨xs.eraseIdxIfInBounds j, setObj_at g1 _, ?_⟩⟩
      have e : (xs.eraseIdxIfInBounds j).toList = xs.toList.eraseIdx j := by
        simp
      rw [e]
      exact entries_erase g2 j
  · cases hr
    simp only [den, Option.some.injEq] at hm
    subst hm
    refine ⟨w, ?_, rfl, m, Step.refl ρ _ w⟩
    simp [Builtin.delete_, run_underlying hd, hck']
    rfl
  · cases hr
theorem delete_ok {t tk kt et : TypeId} {y : Operand} {eq : AV → AV → R Bool} {fm fk : Opd} (hd : P.underlying t = some (.map kt et)) (hkf : KeyFits P kt eq) (hf1 : E.opd x = .ok fm) (hf2 : E.opd y = .ok fk) :
    KOk P X ⟨dst, .call ⟨.builtin .delete, #[x, y], #[t, tk]⟩, ty, pos, after, g⟩ E (.mem (delF eq fm fk)) := by
  intro call hcall ρ l tm h w a v h' m hfree ho hh next Qx hnext
  obtain ⟨m1, e1, hh⟩ := bind_eq.1 hh
  obtain ⟨k1, e2, hh⟩ := bind_eq.1 hh
  have a1 := ho x (by simp [Op.operands, Call.operands]) _ _ hf1 e1
  have a2 := ho y (by simp [Op.operands, Call.operands]) _ _ hf2 e2
  obtain ⟨w', b1, rfl, b3, b4⟩ := del_mem (ty := ty) (tk := tk) m hd hkf a1 a2 hh
  have : (execOp a.eval ⟨dst, .call ⟨.builtin .delete, #[x, y], #[t, tk]⟩, ty, pos, after, g⟩).run P w = .ok (.value undef) w' := by
    simp only [execOp, resolve, List.map_toArray, List.map_cons, List.map_nil]
    simp [invoke, builtin, b1]
  show Oper.upon P _ a next Qx _
  rw [this, Oper.upon_value]
  exact hnext ρ w' _ b4 b3 (den_undef ρ)
end
end Go.AX
/- The abstract executor: a map's entry found or laid, then stored: they are the model's. -/
namespace Go.AX
section
variable {P : Program} {X : Ext} {E : CE} {dst : Option Tmp} {ty : TypeId} {pos : String} {after : Array Edge} {g : Option (Nat × Bool)} {x y : Operand} {t : TypeId}
theorem entries_modify {ρ : Rho} {es : List AE} {xs : Array MapEntry} {j : Nat} {f : AE → AE} {fx : MapEntry → MapEntry} (h : EntriesOk ρ es xs.toList) (hf : ∀ e x, es[j]? = some e → xs[j]? = some x → den ρ (f e).key = some (fx x).key ∧ den ρ (f e).val = some (fx x).val ∧ (f e).born = (fx x).born) :
    EntriesOk ρ (modN j f es) (xs.modify j fx).toList := by
  refine ⟨by rw [modN_eq]; simpa using h.1, fun i e z he hz => ?_⟩
  rw [modN_eq, List.getElem?_modify] at he
  rw [Array.getElem?_toList, Array.getElem?_modify] at hz
  by_cases hi : j = i
  · subst hi
    rw [if_pos rfl] at hz
    simp only [if_true, Option.map_eq_map, Option.map_eq_some_iff] at he hz
    obtain ⟨e0, h1, rfl⟩ := he
    obtain ⟨x0, h2, rfl⟩ := hz
    exact hf e0 x0 h1 h2
  · rw [if_neg hi] at hz
    simp only [if_neg hi, Option.map_eq_map] at he
    have he' : es[i]? = some e := by
      cases hq : es[i]? with
      | none => simp [hq] at he
      | some q => simpa [hq] using he
    exact h.2 i e z he' (by rw [Array.getElem?_toList]; exact hz)
theorem ent_mem {ρ : Rho} {h : AH} {w : World} {kt et : TypeId} {eq : AV → AV → R Bool} {z ma ka : AV} {mv kv : Value} {r : AV} {h' : AH} (m : Mem P ρ h w) (hd : P.underlying t = some (.map kt et)) (hk : KeyFits P kt eq) (hz : zeroOf P et = .ok z)
    (hm : den ρ ma = some mv) (hkv : den ρ ka = some kv) (hr : entA eq z h ma ka = .ok (r, h')) :
    ∃ w' v, (Instr.mapEntry t mv kv).run P w = .ok v w' ∧ den ρ r = some v ∧ Mem P ρ h' w' ∧ Step ρ h w ρ h' w' := by
  obtain ⟨d, hd', hf, hck⟩ := hk.ex
  obtain ⟨zv, hz1, hz2⟩ := zeroOf_ok hz
  obtain ⟨_, hself, hr⟩ := bind_eq.1 hr
  have hck' : ∀ e, (Instr.checkKey e 10000 kt kv).run P w = .ok () w := fun e => hck ρ ka _ kv hself hkv w e
  obtain ⟨b, rfl, hr⟩ := onMap_eq.1 hr
  obtain ⟨o, h1, hr⟩ := bind_eq.1 hr
  obtain ⟨⟨r0, o'⟩, h2, hr⟩ := bind_eq.1 hr
  cases hr
  have h1 := AX.Q.at_eq.1 h1
  obtain ⟨es, c, rfl, h2⟩ := onMapO_eq.1 h2
  obtain ⟨q, h3, h2⟩ := bind_eq.1 h2
  obtain ⟨lc, hl, rfl⟩ := den_map_eq ρ hm
  obtain ⟨xs, g1, g2⟩ := map_mem m hl h1
  have hfa := findA_ok hd' hf hkv es xs.toList q g2 h3
  cases q with
  | none =>
    have h2 : R.ok ((.tuple [z, .int .i64 (.ofNat c)], .map (app es [⟨ka, z, c⟩]) (c + 1)) : AV × AO) = R.ok (r0, o') := h2
    cases h2
    simp only at hfa
    have hrun : (Instr.mapEntry t (.map (some lc.cb)) kv).run P w = .ok (.tuple #[zv, goInt c]) { w with heap := w.heap.setIfInBounds lc.cb (.map (xs.push ⟨kv, zv, c⟩) (c + 1)) } := by
      simp only [Instr.mapEntry, Sem.run_bind, run_underlying hd, Result.andThen_ok, Sem.run_pure, run_getObj_map g1, hck', hfa, hz1, run_setObj_map g1]
    refine ⟨_, _, hrun, den_tuple (denL_cons_eq.2 ⟨_, _, hz2 ρ, denL_cons_eq.2 ⟨_, _, den_int _ _ _, rfl, rfl⟩, rfl⟩), m.put h1 hl rfl (only_setObj w _ _) ⟨xs.push ⟨kv, zv, c⟩, setObj_at g1 _, ?_, fun i e z' he hz' => ?_⟩⟩
    · rw [app_eq]; simp [g2.1]
    · rw [app_eq] at he
      rw [Array.toList_push] at hz'
      by_cases hi : i < es.length
      · rw [List.getElem?_append_left hi] at he
        rw [List.getElem?_append_left (by rw [g2.1]; exact hi)] at hz'
        exact g2.2 i e z' he hz'
      · rw [List.getElem?_append_right (by omega)] at he
        rw [List.getElem?_append_right (by rw [g2.1]; omega), g2.1] at hz'
        have : i - es.length = 0 := by
          have := (List.getElem?_eq_some_iff.1 he).1
          simp at this; omega
        rw [this] at he hz'
        simp at he hz'
        subst he; subst hz'
        exact ⟨hkv, hz2 ρ, rfl⟩
  | some p =>
    obtain ⟨j, v0⟩ := p
    obtain ⟨e1, h4, h5⟩ := bind_eq.1 (show ((R.ofOpt 535 (nth j es)).bind fun e => R.ok ((.tuple [v0, .int .i64 (.ofNat e.born)], .map (modN j (fun e => ⟨ka, e.val, e.born⟩) es) c) : AV × AO)) = R.ok (r0, o') from h2)
    cases h5
    have h4 := ofOpt_eq.1 h4
    rw [nth_eq] at h4
    obtain ⟨e0, m0, _, a2, a3, a4, a5, a6, a7⟩ := hfa
    simp only [Nat.sub_zero] at a2 a4
    rw [a2] at h4
    cases h4
    have a4' : xs[j]? = some m0 := by rw [← Array.getElem?_toList]; exact a4
    have hb := (g2.2 j _ m0 a2 a4).2.2
    have hrun : (Instr.mapEntry t (.map (some lc.cb)) kv).run P w = .ok (.tuple #[m0.val, goInt m0.born]) { w with heap := w.heap.setIfInBounds lc.cb (.map (xs.modify j fun e => { e with key := kv }) c) } := by
      simp only [Instr.mapEntry, Sem.run_bind, run_underlying hd, Result.andThen_ok, Sem.run_pure, run_getObj_map g1, hck', a5, Instr.keyThatStays, a4', Option.map_some, Option.getD_some, a7, if_true, run_setObj_map g1]
    refine ⟨_, _, hrun, den_tuple (denL_cons_eq.2 ⟨_, _, a6, denL_cons_eq.2 ⟨_, _, den_int _ _ _, rfl, by rw [hb]; rfl⟩, rfl⟩), m.put h1 hl rfl (only_setObj w _ _) ⟨xs.modify j fun e => { e with key := kv }, setObj_at g1 _, entries_modify g2 fun e x he hx => ?_⟩⟩
    rw [a2] at he; cases he
    rw [a4'] at hx; cases hx
    exact ⟨hkv, (g2.2 j _ _ a2 a4).2.1, hb⟩
theorem idxBorn_ok {ρ : Rho} {n : Nat} : ∀ {es : List AE} {xs : List MapEntry} {i j : Nat}, EntriesOk ρ es xs → idxBorn n es i = some j → i ≤ j ∧ xs.findIdx? (fun e => (e.born : Int) == (n : Int)) = some (j - i)
  | [], xs, i, j, _, h => by cases h
  | e :: es, [], i, j, he, h => by have := he.1; simp at this
  | e :: es, x :: xs, i, j, he, h => by
    have h : bsel (Nat.beq e.born n) (some i) (idxBorn n es (i + 1)) = some j := h
    have hb := (he.2 0 e x rfl rfl).2.2
    have he' : EntriesOk ρ es xs := ⟨by simpa using he.1, fun j e' m' a b => he.2 (j + 1) e' m' (by simpa using a) (by simpa using b)⟩
    rw [bsel_eq] at h
    rw [List.findIdx?_cons]
    split at h
    · rename_i hn
      rw [natBeq_eq] at hn
      cases h
      rw [if_pos (by rw [← hb, hn]; simp)]
      simp
    · rename_i hn
      rw [natBeq_eq] at hn
      obtain ⟨h1, h2⟩ := idxBorn_ok he' h
      rw [if_neg (by rw [← hb]; simp only [beq_iff_eq]; omega), h2]
      refine ⟨by omega, ?_⟩
      simp only [Option.map_some]
      congr 1
      omega
theorem sto_mem {ρ : Rho} {h : AH} {w : World} {ma sa va : AV} {mv sv vv : Value} {r : AV} {h' : AH} (m : Mem P ρ h w) (hm : den ρ ma = some mv) (hs : den ρ sa = some sv) (hv : den ρ va = some vv) (hr : stoA h ma sa va = .ok (r, h')) :
    ∃ w', (Instr.entryStore t mv sv vv).run P w = .ok () w' ∧ r = .undef ∧ Mem P ρ h' w' ∧ Step ρ h w ρ h' w' := by
  obtain ⟨b, rfl, hr⟩ := onMap_eq.1 hr
  obtain ⟨n, h0, hr⟩ := bind_eq.1 hr
  obtain ⟨o, h1, hr⟩ := bind_eq.1 hr
  obtain ⟨o', h2, hr⟩ := bind_eq.1 hr
  cases hr
  obtain ⟨jk, rfl⟩ := natOf_eq h0
  rw [den_int] at hs
  cases hs
  have h1 := AX.Q.at_eq.1 h1
  obtain ⟨es, c, rfl, h2⟩ := onMapO_eq.1 h2
  obtain ⟨j, h3, h2⟩ := bind_eq.1 h2
  cases h2
  have h3 := ofOpt_eq.1 h3
  obtain ⟨lc, hl, rfl⟩ := den_map_eq ρ hm
  obtain ⟨xs, g1, g2⟩ := map_mem m hl h1
  obtain ⟨_, h4⟩ := idxBorn_ok g2 h3
  rw [Nat.sub_zero, ← List.findIdx?_toArray, Array.toArray_toList] at h4
  have hrun : (Instr.entryStore t (.map (some lc.cb)) (.int jk (Int.ofNat n)) vv).run P w = .ok () { w with heap := w.heap.setIfInBounds lc.cb (.map (xs.modify j fun e => { e with val := vv }) c) } := by
    have h4' : xs.findIdx? (fun e => (e.born : Int) == (n : Int)) = some j := h4
    simp [Instr.entryStore, run_getObj_map g1, asInt, asIntOf, h4', run_setObj_map g1]
  refine ⟨_, hrun, rfl, m.put h1 hl rfl (only_setObj w _ _) ⟨xs.modify j fun e => { e with val := vv }, setObj_at g1 _, entries_modify g2 fun e x he hx => ?_⟩⟩
  obtain ⟨q1, q2, q3⟩ := g2.2 j e x he (by rw [Array.getElem?_toList]; exact hx)
  exact ⟨q1, hv, q3⟩
theorem entry_ok {kt et : TypeId} {eq : AV → AV → R Bool} {z : AV} {fm fk : Opd} (hd : P.underlying t = some (.map kt et)) (hkf : KeyFits P kt eq) (hz : zeroOf P et = .ok z) (hf1 : E.opd x = .ok fm) (hf2 : E.opd y = .ok fk) :
    KOk P X ⟨dst, .mapEntry t x y, ty, pos, after, g⟩ E (.mem (entF eq z fm fk)) := by
  intro call hcall ρ l tm h w a v h' m hfree ho hh next Qx hnext
  obtain ⟨m1, e1, hh⟩ := bind_eq.1 hh
  obtain ⟨k1, e2, hh⟩ := bind_eq.1 hh
  have a1 := ho x (by simp [Op.operands]) _ _ hf1 e1
  have a2 := ho y (by simp [Op.operands]) _ _ hf2 e2
  obtain ⟨w', u, b1, b2, b3, b4⟩ := ent_mem m hd hkf hz a1 a2 hh
  have : (execOp a.eval ⟨dst, .mapEntry t x y, ty, pos, after, g⟩).run P w = .ok (.value u) w' := by
    simp only [execOp]
    exact exec_v b1
  show Oper.upon P _ a next Qx _
  rw [this, Oper.upon_value]
  exact hnext ρ w' _ b4 b3 b2
theorem entryStore_ok {o3 : Operand} {fm fs fv : Opd} (hf1 : E.opd x = .ok fm) (hf2 : E.opd y = .ok fs) (hf3 : E.opd o3 = .ok fv) :
    KOk P X ⟨dst, .entryStore t x y o3, ty, pos, after, g⟩ E (.mem (stoF fm fs fv)) := by
  intro call hcall ρ l tm h w a v h' m hfree ho hh next Qx hnext
  obtain ⟨m1, e1, hh⟩ := bind_eq.1 hh
  obtain ⟨k1, e2, hh⟩ := bind_eq.1 hh
  obtain ⟨v1, e3, hh⟩ := bind_eq.1 hh
  have a1 := ho x (by simp [Op.operands]) _ _ hf1 e1
  have a2 := ho y (by simp [Op.operands]) _ _ hf2 e2
  have a3 := ho o3 (by simp [Op.operands]) _ _ hf3 e3
  obtain ⟨w', b1, rfl, b3, b4⟩ := sto_mem (t := t) m a1 a2 a3 hh
  have : (execOp a.eval ⟨dst, .entryStore t x y o3, ty, pos, after, g⟩).run P w = .ok .skip w' := by
    simp only [execOp, Sem.run_bind, b1, Result.andThen_ok, Sem.run_pure]
  show Oper.upon P _ a next Qx _
  rw [this, Oper.upon_skip]
  exact hnext ρ w' _ b4 b3 (den_undef ρ)
end
end Go.AX
/- The abstract executor: floats: they are the model's. -/
namespace Go.AX
section
variable {P : Program} {X : Ext} {E : CE} {k : OpK} {op : BinOp} {t : TypeId} {x y : Operand} {yt : TypeId} {dst : Option Tmp} {ty : TypeId} {pos : String} {after : Array Edge} {g : Option (Nat × Bool)}
theorem onFlo_eq {α : Type} {n : Nat} {f : FloatKind → Nat → R α} {v : AV} {r : α} (h : onFlo n f v = .ok r) : ∃ k b, v = .float k b ∧ f k b = .ok r := by
  unfold onFlo at h
  split at h
  · exact ⟨_, _, rfl, h⟩
  · cases h
theorem fkEq_eq {a b : FloatKind} (h : fkEq a b = true) : a = b := by cases a <;> cases b <;> first | rfl | cases h
theorem den_float (ρ : Rho) (k : FloatKind) (n : Nat) : den ρ (.float k n) = some (.float k n) := by simp only [den]
theorem flt_ok (hk : E.pur2 (fltV op) x y = .ok k) : KOk P X ⟨dst, .binOp op t x y yt, ty, pos, after, g⟩ E k :=
  pur2_ok hk (by simp [Op.operands]) (by simp [Op.operands]) fun ρ v v' u ev w h1 h2 h3 => by
    obtain ⟨k1, a, rfl, h4⟩ := onFlo_eq h1
    obtain ⟨k2, b, rfl, h5⟩ := onFlo_eq h4
    obtain ⟨h6, h7⟩ := tst_eq.1 h5
    obtain rfl := fkEq_eq h6
    obtain ⟨r, h8, h9⟩ := bind_eq.1 h7
    cases h9
    have h8 := ofOpt_eq.1 h8
    rw [den_float] at h2 h3
    have ha := Option.some.inj h2
    have hb := Option.some.inj h3
    refine ⟨_, den_float _ _ _, exec_bin (by rw [← ha, ← hb]; exact guard_pure (by simp) (by simp)) ?_⟩
    rw [← ha, ← hb]
    cases op <;> first
      | (unfold fltR at h8; cases h8; done)
      | (simp only [fltR] at h8; simp [binOp, Op.floatArith, h8])
theorem fcmp_ok (hk : E.pur2 (fcmpV op) x y = .ok k) : KOk P X ⟨dst, .binOp op t x y yt, ty, pos, after, g⟩ E k :=
  pur2_ok hk (by simp [Op.operands]) (by simp [Op.operands]) fun ρ v v' u ev w h1 h2 h3 => by
    obtain ⟨k1, a, rfl, h4⟩ := onFlo_eq h1
    obtain ⟨k2, b, rfl, h5⟩ := onFlo_eq h4
    obtain ⟨h6, h7⟩ := tst_eq.1 h5
    obtain rfl := fkEq_eq h6
    obtain ⟨r, h8, h9⟩ := bind_eq.1 h7
    cases h9
    have h8 := ofOpt_eq.1 h8
    rw [den_float] at h2 h3
    have ha := Option.some.inj h2
    have hb := Option.some.inj h3
    refine ⟨_, den_bool _ _, exec_bin (by rw [← ha, ← hb]; exact guard_pure (by simp) (by simp)) ?_⟩
    rw [← ha, ← hb]
    cases op <;> first
      | (unfold fcmpB at h8; cases h8; done)
      | (simp only [fcmpB, Option.some.injEq] at h8; subst h8; simp [binOp, Op.floatCmp])
theorem binFlo_ok (hk : E.binFlo op x y = .ok k) : KOk P X ⟨dst, .binOp op t x y yt, ty, pos, after, g⟩ E k := by
  cases op <;> first
    | exact flt_ok hk
    | exact fcmp_ok hk
    | (cases hk; done)
end
end Go.AX
/- The abstract executor: whole numbers to floats and back; a slice cleared: they are the model's. -/
namespace Go.AX
section
variable {P : Program} {X : Ext} {E : CE} {k : OpK} {t : TypeId} {x y : Operand} {dst : Option Tmp} {ty : TypeId} {pos : String} {after : Array Edge} {g : Option (Nat × Bool)}
theorem ofInt_ok {s d : TypeId} {sd : TypeDesc} {j : FloatKind} (hs : P.underlying s = some sd) (hd : P.underlying d = some (.float j)) (hk : E.pur1 (ofIntV j) x = .ok k) : KOk P X ⟨dst, .convert s d x, ty, pos, after, g⟩ E k :=
  pur1_ok hk (by simp [Op.operands]) fun ρ v u ev w h1 h2 => by
    obtain ⟨i, n, rfl, h⟩ := onInt_eq.1 h1
    have := ok_inj h; subst this
    rw [den_int] at h2
    refine ⟨_, den_float _ _ _, ?_⟩
    simp only [execOp, ← Option.some.inj h2]
    exact exec_v (by simp [convert, run_underlying hs, run_underlying hd, Conv.intToFloat])
theorem toIntF_ok {s d : TypeId} {sd : TypeDesc} {j : IntKind} (hs : P.underlying s = some sd) (hd : P.underlying d = some (.int j)) (hk : E.pur1 (toIntF j) x = .ok k) : KOk P X ⟨dst, .convert s d x, ty, pos, after, g⟩ E k :=
  pur1_ok hk (by simp [Op.operands]) fun ρ v u ev w h1 h2 => by
    obtain ⟨fk, b, rfl, h⟩ := onFlo_eq h1
    obtain ⟨n, h3, h⟩ := bind_eq.1 h
    obtain ⟨h4, h⟩ := tst_eq.1 h
    cases h
    have h3 := ofOpt_eq.1 h3
    have h4 := of_decide_eq_true h4
    rw [den_float] at h2
    refine ⟨_, den_int _ _ _, ?_⟩
    simp only [execOp, ← Option.some.inj h2]
    refine exec_v ?_
    simp only [convert, Sem.run_bind, run_underlying hs, run_underlying hd, Result.andThen_ok, Conv.floatToInt, h3]
    rw [if_pos h4, Sem.run_pure]
theorem rep_get {zs : List Value} {es c : Nat} (hzs : zs.length = es) {r : Nat} (hr : r < c * es) : (List.replicate c zs).flatten[r]? = zs[r % es]? := by
  have hpos : 0 < es := by
    rcases Nat.eq_zero_or_pos es with h0 | h0
    · rw [h0] at hr; simp at hr
    · exact h0
  have gen : ∀ (c j r : Nat), j < c → r < es → (List.replicate c zs).flatten[j * es + r]? = zs[r]? := by
    intro c
    induction c with
    | zero => intro j r h; omega
    | succ c ih =>
      intro j r h hr
      cases j with
      | zero =>
        simp only [List.replicate_succ, List.flatten_cons, Nat.zero_mul, Nat.zero_add]
        rw [List.getElem?_append_left (by omega)]
      | succ j =>
        simp only [List.replicate_succ, List.flatten_cons]
        rw [List.getElem?_append_right (by rw [Nat.add_mul]; omega)]
        have : (j + 1) * es + r - zs.length = j * es + r := by rw [Nat.add_mul]; omega
        rw [this]
        exact ih j r (by omega) hr
  have := gen c (r / es) (r % es) (by rw [Nat.div_lt_iff_lt_mul hpos]; exact hr) (Nat.mod_lt _ hpos)
  rw [Nat.div_add_mod'] at this
  exact this
theorem zeroCells_list {zs : List Value} {n : Nat} : (Builtin.zeroCells zs.toArray n).toList = (List.replicate n zs).flatten := by
  have hlen : (List.replicate n zs).flatten.length = n * zs.length := by simp
  apply List.ext_getElem?
  intro r
  unfold Builtin.zeroCells
  by_cases hr : r < n * zs.length
  · rw [rep_get rfl hr]
    have hpos : 0 < zs.length := by
      rcases Nat.eq_zero_or_pos zs.length with h0 | h0
      · rw [h0] at hr; simp at hr
      · exact h0
    have hm : r % zs.length < zs.length := Nat.mod_lt _ hpos
    simp [hr, hm]
  · rw [List.getElem?_eq_none (by simp; omega), List.getElem?_eq_none (by simp; omega)]
theorem clear_mem {ρ : Rho} {h : AH} {w : World} {e : TypeId} {i : TypeInfo} {zv : Value} {zs : List Value} {zl : List AV} {va : AV} {v : Value} {r : AV} {h' : AH} (m : Mem P ρ h w) (hd : P.underlying t = some (.slice e)) (hi : P.info? e = some i) (hz : i.zero = some zv)
    (hzs : zv.cells = zs.toArray) (hzd : denL ρ zl = some zs) (hz1 : zl.all oneV = true) (hzl : zl.length = i.size) (hv : den ρ va = some v) (hr : clearA i.size zl h va = .ok (r, h')) :
    ∃ w', (Builtin.clear_ #[t] ty #[v]).run P w = .ok undef w' ∧ r = .undef ∧ Mem P ρ h' w' ∧ Step ρ h w ρ h' w' := by
  unfold clearA at hr
  split at hr
  · cases hr
    rw [den_slc0] at hv
    cases hv
    exact ⟨w, by simp [Builtin.clear_, run_underlying hd]; rfl, rfl, m, Step.refl ρ _ w⟩
  · cases hr
    simp only [den, Option.map_eq_some_iff] at hv
    obtain ⟨lc, hl, hx⟩ := hv
    refine ⟨w, ?_, rfl, m, Step.refl ρ _ w⟩
    rw [← hx]
    split <;> (simp [Builtin.clear_, run_underlying hd]; rfl)
  · rename_i b off n cp
    obtain ⟨lc, cap, hl, rfl, _⟩ := den_slc_eq hv
    rw [bsel_eq] at hr
    split at hr
    · rename_i h0
      rw [natBeq_eq] at h0
      subst h0
      cases hr
      exact ⟨w, by simp [Builtin.clear_, run_underlying hd]; rfl, rfl, m, Step.refl ρ _ w⟩
    · rename_i h0
      rw [natBeq_eq] at h0
      obtain ⟨o, h1, hr⟩ := bind_eq.1 hr
      have h1 := Q.at_eq.1 h1
      obtain ⟨e', ro, op, es', size, fr, c, rfl, hr⟩ := onRow_eq.1 hr
      obtain ⟨h2, hr⟩ := tst_eq.1 hr
      cases hr
      simp only [band_eq, bnot_eq, Bool.and_eq_true, Bool.not_eq_true', natBeq_eq, natBle_eq] at h2
      obtain ⟨rfl, rfl, hmod, hsz, hfr⟩ := h2
      have hoff : off / i.size * i.size = off := by have := Nat.div_add_mod' off i.size; omega
      obtain ⟨cs, lo, hi', g1, g2, g3, g4, g5⟩ := m.obj _ _ lc h1 hl
      have hel : ElemsOk ρ i.size (List.replicate n zl) (List.replicate n zs).flatten :=
        ⟨denL_rep n hzd, fun u hu => by obtain rfl := (List.mem_replicate.1 hu).2; exact ⟨hzl, hz1⟩⟩
      have hq2 : (off / i.size + (List.replicate n zl).length) * i.size = off + n * i.size := by rw [List.length_replicate, Nat.add_mul, hoff]
      obtain ⟨w', cs', a1, a2, a3, a4, a5⟩ := store_lay (P := P) (size' := size) (q := off / i.size) g1 g5 hel (Nat.le_refl _) (by rw [hq2]; exact hsz) (by rw [hq2]; omega) (fun j hj1 hj2 => by
        rw [hoff] at hj1
        rw [hq2] at hj2
        cases fr with
        | clean => have g4 : lo = hi' := g4; omega
        | range a b' =>
          have g4 : lo ≤ hi' ∧ (lo < hi' → lc.co + a ≤ lo ∧ hi' ≤ lc.co + b') := g4
          have hfr : bor (Nat.ble (off + n * i.size) a) (Nat.ble b' off) = true := hfr
          rw [bor_eq, Bool.or_eq_true, natBle_eq, natBle_eq] at hfr
          intro hc
          have := g4.2 (by omega)
          omega
        | past => exact fun hc => g4 j (by unfold extOf; split <;> omega) hc)
      rw [hoff] at a1
      obtain ⟨m2, s2⟩ := m.put (o' := .cells e' false op i.size size fr (layRow (List.replicate n zl) (off / i.size) c)) h1 hl rfl a2 ⟨cs', lo, hi', a3, by rw [a4]; exact g2, by rw [a4]; exact g3, g4, a5⟩
      refine ⟨w', ?_, rfl, m2, s2⟩
      obtain ⟨n', rfl⟩ : ∃ n', n = n' + 1 := ⟨n - 1, by omega⟩
      have hzv : (zeroValue e).run P w = .ok zv w := zero_of_info hi hz w
      simp only [Builtin.clear_, Sem.run_bind, run_underlying hd, Result.andThen_ok, List.getElem?_toArray, List.getElem?_cons_zero, hzv, hzs, zeroCells_list, a1, Sem.run_pure]
      rfl
  · cases hr
theorem clear_ok {e : TypeId} {i : TypeInfo} {zv : Value} {z : AV} {zl : List AV} {fx : Opd} (hd : P.underlying t = some (.slice e)) (hi : P.info? e = some i) (hz : i.zero = some zv) (hza : absV zv = .ok z) (hzc : z.cells = .ok zl) (hzl : zl.length = i.size) (hx : E.opd x = .ok fx) :
    KOk P X ⟨dst, .call ⟨.builtin .clear, #[x], #[t]⟩, ty, pos, after, g⟩ E (.mem (clearF i.size zl fx)) := by
  intro call hcall ρ l tm h w a v h' m hfree ho hh next Qx hnext
  obtain ⟨v1, e1, hh⟩ := bind_eq.1 hh
  have a1 := ho x (by simp [Op.operands, Call.operands]) _ _ hx e1
  obtain ⟨zs, f1, f2, f3⟩ := cells_den (ρ := ρ) hzc (absV_ok hza)
  obtain ⟨w', b1, rfl, b3, b4⟩ := clear_mem (ty := ty) m hd hi hz f2 f1 f3 hzl a1 hh
  have : (execOp a.eval ⟨dst, .call ⟨.builtin .clear, #[x], #[t]⟩, ty, pos, after, g⟩).run P w = .ok (.value undef) w' := by
    simp only [execOp, resolve, List.map_toArray, List.map_cons, List.map_nil]
    simp [invoke, builtin, b1]
  show Oper.upon P _ a next Qx _
  rw [this, Oper.upon_value]
  exact hnext ρ w' _ b4 b3 (den_undef ρ)
theorem copy_mem {ρ : Rho} {h : AH} {w : World} {e : TypeId} {es : Nat} {tx : TypeId} {da ua : AV} {d u : Value} {r : AV} {h' : AH} (m : Mem P ρ h w) (hd : P.underlying t = some (.slice e)) (hn : szOf P e = .ok es) (hk : (∃ e', P.underlying tx = some (.slice e')) ∨ P.underlying tx = some .string)
    (hv : den ρ da = some d) (hu : den ρ ua = some u) (hr : copyA es h da ua = .ok (r, h')) : ∃ w' v, (Builtin.copy_ #[t, tx] ty #[d, u]).run P w = .ok v w' ∧ den ρ r = some v ∧ Mem P ρ h' w' ∧ Step ρ h w ρ h' w' := by
  obtain ⟨new, h0, hr⟩ := bind_eq.1 hr
  split at hr
  · rename_i b off n cp _
    obtain ⟨o, h1, hr⟩ := bind_eq.1 hr
    have h1 := Q.at_eq.1 h1
    obtain ⟨e', ro, op, es', size, fr, c, rfl, hr⟩ := onRow_eq.1 hr
    obtain ⟨h2, hr⟩ := tst_eq.1 hr
    cases hr
    simp only [band_eq, bnot_eq, Bool.and_eq_true, Bool.not_eq_true', natBeq_eq, natBle_eq, natBlt_eq, len_eq] at h2
    obtain ⟨rfl, rfl, hpos, hle, hmod, hsz, hfr⟩ := h2
    rw [len_eq]
    obtain ⟨lc, cap, hl, rfl, _⟩ := den_slc_eq hv
    obtain ⟨news, k1, k2, _⟩ := srcA_ok m hk hu h0
    have hs := k2 (fun e => by rw [e] at hpos; simp at hpos)
    have hoff : off / es * es = off := by have := Nat.div_add_mod' off es; omega
    obtain ⟨cs, lo, hi', g1, g2, g3, g4, g5⟩ := m.obj _ _ lc h1 hl
    have hq2 : (off / es + new.length) * es = off + new.length * es := by rw [Nat.add_mul, hoff]
    obtain ⟨w', cs', a1, a2, a3, a4, a5⟩ := store_lay (P := P) (size' := size) (q := off / es) g1 g5 k1 (Nat.le_refl _) (by rw [hq2]; exact hsz) (by rw [hq2]; omega) (fun j hj1 hj2 => by
      rw [hoff] at hj1
      rw [hq2] at hj2
      cases fr with
      | clean => have g4 : lo = hi' := g4; omega
      | range a b' =>
        have g4 : lo ≤ hi' ∧ (lo < hi' → lc.co + a ≤ lo ∧ hi' ≤ lc.co + b') := g4
        have hfr : bor (Nat.ble (off + new.length * es) a) (Nat.ble b' off) = true := hfr
        rw [bor_eq, Bool.or_eq_true, natBle_eq, natBle_eq] at hfr
        intro hc
        have := g4.2 (by omega)
        omega
      | past => exact fun hc => g4 j (by unfold extOf; split <;> omega) hc)
    rw [hoff] at a1
    obtain ⟨m2, s2⟩ := m.put (o' := .cells e' false op es size fr (layRow new (off / es) c)) h1 hl rfl a2 ⟨cs', lo, hi', a3, by rw [a4]; exact g2, by rw [a4]; exact g3, g4, a5⟩
    refine ⟨w', .int .i64 new.length, ?_, den_int _ _ _, m2, s2⟩
    have hmin : Nat.min new.length n = new.length := Nat.min_eq_left hle
    simp [Builtin.copy_, run_underlying hd, hs.len, hmin, run_sizeOf' hn, hs.cells, a1, goInt]
  · cases hr
theorem copy_ok {e : TypeId} {es : Nat} {tx : TypeId} {fx fy : Opd} (hd : P.underlying t = some (.slice e)) (hn : szOf P e = .ok es) (hk : (∃ e', P.underlying tx = some (.slice e')) ∨ P.underlying tx = some .string) (hx : E.opd x = .ok fx) (hy : E.opd y = .ok fy) :
    KOk P X ⟨dst, .call ⟨.builtin .copy, #[x, y], #[t, tx]⟩, ty, pos, after, g⟩ E (.mem (copyF es fx fy)) := by
  intro call hcall ρ l tm h w a v h' m hfree ho hh next Qx hnext
  obtain ⟨v1, e1, hh⟩ := bind_eq.1 hh
  obtain ⟨v2, e2, hh⟩ := bind_eq.1 hh
  have a1 := ho x (by simp [Op.operands, Call.operands]) _ _ hx e1
  have a2 := ho y (by simp [Op.operands, Call.operands]) _ _ hy e2
  obtain ⟨w', u, b1, b2, b3, b4⟩ := copy_mem (ty := ty) m hd hn hk a1 a2 hh
  have : (execOp a.eval ⟨dst, .call ⟨.builtin .copy, #[x, y], #[t, tx]⟩, ty, pos, after, g⟩).run P w = .ok (.value u) w' := by
    simp only [execOp, resolve, List.map_toArray, List.map_cons, List.map_nil]
    simp [invoke, builtin, b1]
  show Oper.upon P _ a next Qx _
  rw [this, Oper.upon_value]
  exact hnext ρ w' _ b4 b3 b2
end
end Go.AX
/- The abstract executor: every operation that compiles is the model's. -/
namespace Go.AX
section
variable {P : Program} {X : Ext} {E : CE} {k : OpK} {dst : Option Tmp} {ty : TypeId} {pos : String} {after : Array Edge} {g : Option (Nat × Bool)}

theorem bne0 {n : Nat} (h : bnot (Nat.beq n 0) = true) : n ≠ 0 := by
  rw [bnot_eq, Bool.not_eq_true'] at h
  intro h0
  subst h0
  cases h
theorem eqOf_ok {t yt : TypeId} {x y : Operand} {neg : Bool} {eq : AH → AV → AV → R Bool} (h : eqOf P t (bor (isConstO x) (isConstO y)) = .ok eq) (hk : E.rd2 (eqV neg eq) x y = .ok k) :
    KOk P X ⟨dst, .binOp (if neg then .neq else .eql) t x y yt, ty, pos, after, g⟩ E k := by
  obtain ⟨d, hd, h1⟩ := bind_eq.1 h
  have hd := undOf_eq hd
  split at h1
  · cases h1; exact eqIface_ok hd hk
  · obtain ⟨n, hn, h2⟩ := bind_eq.1 h1
    obtain ⟨h3, h2⟩ := tst_eq.1 h2
    cases h2
    exact eqPtr_ok hd hn (bne0 h3) hk
  · cases h1; exact eqBool_ok hd hk
  · cases h1; exact eqSlc_ok hd hk
  · cases h1; exact eqMap_ok hd hk
  · cases h1; exact eqFunc_ok hd hk
  · obtain ⟨h2, h1⟩ := tst_eq.1 h1
    obtain ⟨ls, h3, h1⟩ := bind_eq.1 h1
    cases h1
    rw [bnot_eq, Bool.not_eq_true'] at h2
    exact eqAgg_ok hd h2 h3 (by omega) hk
  · cases h1
theorem bin_ok {op : BinOp} {t yt : TypeId} {x y : Operand} (hP : E.P = P) (hk : E.bin op t x y = .ok k) : KOk P X ⟨dst, .binOp op t x y yt, ty, pos, after, g⟩ E k := by
  obtain ⟨d, hd, h1⟩ := bind_eq.1 hk
  split at h1
  · exact binInt_ok h1
  · exact binStr_ok h1
  · exact binFlo_ok h1
  · split at h1
    · obtain ⟨eq, h2, h3⟩ := bind_eq.1 h1
      rw [hP] at h2
      exact eqOf_ok (neg := false) h2 h3
    · obtain ⟨eq, h2, h3⟩ := bind_eq.1 h1
      rw [hP] at h2
      exact eqOf_ok (neg := true) h2 h3
    · cases h1
theorem arr_of {α : Type} {a : Array α} {l : List α} (h : a.toList = l) : a = l.toArray := by rw [← h]
theorem builtin2_ok {b : Builtin} {al : List Operand} {tl : List TypeId} (hk : E.builtin2 b al tl = .ok k) : KOk E.P X ⟨dst, .call ⟨.builtin b, al.toArray, tl.toArray⟩, ty, pos, after, g⟩ E k := by
  unfold CE.builtin2 at hk
  split at hk
  · split at hk
    · obtain ⟨d, hd, h1⟩ := bind_eq.1 hk
      have hd := undOf_eq hd
      split at h1
      · obtain ⟨i, hi, h2⟩ := bind_eq.1 h1
        obtain ⟨zv, hz, h3⟩ := bind_eq.1 h2
        obtain ⟨z, hza, h4⟩ := bind_eq.1 h3
        obtain ⟨zl, hzc, h5⟩ := bind_eq.1 h4
        obtain ⟨h6, h7⟩ := tst_eq.1 h5
        obtain ⟨f, hf, h8⟩ := bind_eq.1 h7
        cases h8
        rw [natBeq_eq, len_eq] at h6
        exact clear_ok hd (ofOpt_eq.1 hi) (ofOpt_eq.1 hz) hza hzc h6 hf
      · cases h1
    · cases hk
  · split at hk
    · obtain ⟨h0, h1⟩ := tst_eq.1 hk
      split at h1
      · rename_i e he
        obtain ⟨n, hn, h2⟩ := bind_eq.1 h1
        obtain ⟨f, hf, h3⟩ := bind_eq.1 h2
        obtain ⟨f', hf', h4⟩ := bind_eq.1 h3
        cases h4
        refine copy_ok he hn ?_ hf hf'
        unfold isSrcT at h0
        split at h0
        · rename_i e' he'; exact .inl ⟨e', he'⟩
        · rename_i he'; exact .inr he'
        · cases h0
      · cases h1
    · cases hk
  · cases hk
theorem builtin_ok {b : Builtin} {args : Array Operand} {ts : Array TypeId} (hP : E.P = P) (hk : E.builtin b args.toList ts.toList = .ok k) : KOk P X ⟨dst, .call ⟨.builtin b, args, ts⟩, ty, pos, after, g⟩ E k := by
  subst hP
  generalize ha : args.toList = al at hk
  generalize ht : ts.toList = tl at hk
  obtain rfl := arr_of ha
  obtain rfl := arr_of ht
  clear ha ht
  unfold CE.builtin at hk
  split at hk
  · split at hk
    · obtain ⟨d, hd, h1⟩ := bind_eq.1 hk
      have hd := undOf_eq hd
      split at h1
      · exact lenStr_ok hd h1
      · exact lenSlc_ok hd h1
      · exact lenMap_ok hd h1
      · cases h1
    · cases hk
  · split at hk
    · obtain ⟨h0, h1⟩ := tst_eq.1 hk
      split at h1
      · rename_i e he
        obtain ⟨i, hi, h2⟩ := bind_eq.1 h1
        have hi := ofOpt_eq.1 hi
        obtain ⟨h3, h2⟩ := tst_eq.1 h2
        obtain ⟨f, hf, h4⟩ := bind_eq.1 h2
        obtain ⟨f', hf', h5⟩ := bind_eq.1 h4
        rw [natBle_eq] at h3
        split at h5
        · rename_i z hz
          obtain ⟨h6, h7⟩ := tst_eq.1 h5
          cases h7
          rw [natBeq_eq, len_eq, Array.length_toList] at h6
          refine append_ok he ?_ hi hz h6 h3 hf hf'
          unfold isSrcT at h0
          split at h0
          · rename_i e' he'; exact .inl ⟨e', he'⟩
          · rename_i he'; exact .inr he'
          · cases h0
        · cases h5
      · cases h1
    · cases hk
  · exact min_ok hk
  · exact max_ok hk
  · exact sliceData_ok hk
  · split at hk
    · split at hk
      · rename_i e he
        split at hk
        · obtain ⟨n, hn, h1⟩ := bind_eq.1 hk
          obtain ⟨h2, h3⟩ := tst_eq.1 h1
          obtain ⟨f, hf, h4⟩ := bind_eq.1 h3
          obtain ⟨f', hf', h5⟩ := bind_eq.1 h4
          cases h5
          rw [natBeq_eq] at h2
          subst h2
          refine unsafeString_ok he ?_ hf hf'
          obtain ⟨i, hi, hs⟩ := szOf_eq hn
          unfold Program.cellsOf
          rw [hi]; simpa using hs
        · cases hk
      · cases hk
    · cases hk
  · split at hk
    · obtain ⟨d, hd, h1⟩ := bind_eq.1 hk
      have hd := undOf_eq hd
      split at h1
      · obtain ⟨eq, he, h2⟩ := bind_eq.1 h1
        obtain ⟨f, hf, h3⟩ := bind_eq.1 h2
        obtain ⟨f', hf', h4⟩ := bind_eq.1 h3
        cases h4
        exact delete_ok hd (keyOf_fits he) hf hf'
      · cases h1
    · cases hk
  · exact builtin2_ok hk
theorem convert_ok {s d : TypeId} {x : Operand} (hP : E.P = P) (hk : E.convert s d x = .ok k) : KOk P X ⟨dst, .convert s d x, ty, pos, after, g⟩ E k := by
  subst hP
  obtain ⟨sd, hs, h1⟩ := bind_eq.1 hk
  obtain ⟨dd, hd, h2⟩ := bind_eq.1 h1
  have hs := undOf_eq hs
  have hd := undOf_eq hd
  split at h2
  · split at h2
    · exact toIntF_ok hs hd h2
    · exact toInt_ok hs hd h2
  · split at h2
    · exact ofInt_ok hs hd h2
    · cases h2
  · split at h2
    · obtain ⟨n, hn, h3⟩ := bind_eq.1 h2
      obtain ⟨h4, h5⟩ := tst_eq.1 h3
      exact toUnsafe_ok hs hd hn (bne0 h4) h5
    · cases h2
  · split at h2
    · obtain ⟨n, hn, h3⟩ := bind_eq.1 h2
      exact ofUnsafe_ok hs hd hn h3
    · cases h2
  · split at h2
    · split at h2
      · rename_i he
        obtain ⟨f, hf, h3⟩ := bind_eq.1 h2
        cases h3
        exact bytesConv_ok hs hd he hf
      · cases h2
    · cases h2
  · split at h2
    · split at h2
      · rename_i he
        exact bytesStr_ok hs hd he h2
      · cases h2
    · exact rune_ok hs hd h2
    · exact strMove_ok hs hd h2
    · cases h2
  · cases h2
theorem op_ok {op : Op} (hP : E.P = P) (hk : E.op op = .ok k) : KOk P X ⟨dst, op, ty, pos, after, g⟩ E k := by
  unfold CE.op at hk
  split at hk
  · obtain ⟨f, hf, h1⟩ := bind_eq.1 hk; cases h1; exact move_ok hf
  · obtain ⟨f, hf, h1⟩ := bind_eq.1 hk; cases h1; exact assign_ok hf
  · obtain ⟨c, hc, h1⟩ := bind_eq.1 hk
    obtain ⟨a, ha, h2⟩ := bind_eq.1 h1
    obtain ⟨b, hb, h3⟩ := bind_eq.1 h2
    cases h3
    exact pick_ok hc ha hb
  · obtain ⟨z, hz, h1⟩ := bind_eq.1 hk
    obtain ⟨l, hl, h2⟩ := bind_eq.1 h1
    cases h2
    exact alloc_ok (hP ▸ hz) hl
  · obtain ⟨f, hf, h1⟩ := bind_eq.1 hk; cases h1; exact box_ok hf
  · obtain ⟨z, hz, h1⟩ := bind_eq.1 hk
    obtain ⟨l, hl, h2⟩ := bind_eq.1 h1
    obtain ⟨d, hd, h3⟩ := bind_eq.1 h2
    rw [hP] at hd hz
    have hd := undOf_eq hd
    split at h3
    · obtain ⟨q, hq, h4⟩ := bind_eq.1 h3
      obtain ⟨ss, hs, h5⟩ := bind_eq.1 h4
      cases h5
      rw [hP] at hs
      exact buildS_ok hz hl hd hP hq hs
    · obtain ⟨n, hn, h4⟩ := bind_eq.1 h3
      obtain ⟨q, hq, h5⟩ := bind_eq.1 h4
      cases h5
      rw [hP] at hn
      exact buildA_ok hz hl hd hn hq
    · cases h3
  · obtain ⟨d, hd, h1⟩ := bind_eq.1 hk
    rw [hP] at hd
    have hd := undOf_eq hd
    split at h1
    · obtain ⟨i, hi, h2⟩ := bind_eq.1 h1
      obtain ⟨h3, h4⟩ := tst_eq.1 h2
      obtain ⟨q, hq, h5⟩ := bind_eq.1 h4
      rw [hP] at hi
      have hi := ofOpt_eq.1 hi
      rw [band_eq, band_eq, Bool.and_eq_true, Bool.and_eq_true, natBeq_eq, natBle_eq, len_eq] at h3
      split at h5
      · rename_i z hz
        cases h5
        exact buildSlice_ok hd hi hz h3.1 h3.2.1 h3.2.2 hq
      · cases h5
    · cases h1
  · obtain ⟨b, hb, h1⟩ := bind_eq.1 hk
    obtain ⟨n, hn, h2⟩ := bind_eq.1 h1
    obtain ⟨f, hf, h3⟩ := bind_eq.1 h2
    rw [hP] at hb hn
    rw [bsel_eq] at h3
    cases b with
    | true => rw [if_pos rfl] at h3; cases h3; exact loadN_ok hb hn hf
    | false => rw [if_neg (by simp)] at h3; cases h3; exact load1_ok hb hf
  · obtain ⟨n, hn, h1⟩ := bind_eq.1 hk
    obtain ⟨f, hf, h2⟩ := bind_eq.1 h1
    obtain ⟨f', hf', h3⟩ := bind_eq.1 h2
    cases h3
    rw [hP] at hn
    exact store_ok hn hf hf'
  · exact nilCheck_ok hk
  · exact bin_ok hP hk
  · split at hk
    · exact not_ok hk
    · exact neg_ok hk
    · cases hk
  · exact convert_ok hP hk
  · obtain ⟨d, hd, h1⟩ := bind_eq.1 hk
    rw [hP] at hd
    have hd := undOf_eq hd
    split at h1
    · cases h1
    · rename_i hn
      exact iface_ok hd (fun ms h => hn ms h) h1
  · split at hk
    · obtain ⟨l, hl, h1⟩ := bind_eq.1 hk
      obtain ⟨m, hm, h2⟩ := bind_eq.1 h1
      cases h2
      exact func_ok hl hm
    · cases hk
  · split at hk
    · cases hk; exact makeMap_ok
    · obtain ⟨d, hd, h1⟩ := bind_eq.1 hk
      rw [hP] at hd
      have hd := undOf_eq hd
      split at h1
      · obtain ⟨f, hf, h2⟩ := bind_eq.1 h1
        cases h2
        exact makeMapN_ok hd hf
      · cases h1
  · obtain ⟨d, hd, h1⟩ := bind_eq.1 hk
    rw [hP] at hd
    have hd := undOf_eq hd
    split at h1
    · obtain ⟨i, hi, h2⟩ := bind_eq.1 h1
      rw [hP] at hi
      have hi := ofOpt_eq.1 hi
      obtain ⟨z, hz, h3⟩ := bind_eq.1 h2
      have hz := ofOpt_eq.1 hz
      obtain ⟨za, hza, h4⟩ := bind_eq.1 h3
      obtain ⟨l, hl, h5⟩ := bind_eq.1 h4
      obtain ⟨h6, h7⟩ := tst_eq.1 h5
      obtain ⟨f, hf, h8⟩ := bind_eq.1 h7
      obtain ⟨f', hf', h9⟩ := bind_eq.1 h8
      cases h9
      rw [natBeq_eq, len_eq] at h6
      exact makeSlice_ok hd hi hz hza hl h6 hf hf'
    · cases h1
  · rename_i t x lo0 hi0 mx0
    obtain ⟨d, hd, h1⟩ := bind_eq.1 hk
    obtain ⟨f, hf, h2⟩ := bind_eq.1 h1
    obtain ⟨lo, hlo, h3⟩ := bind_eq.1 h2
    obtain ⟨hi, hhi, h4⟩ := bind_eq.1 h3
    obtain ⟨mx, hmx, h5⟩ := bind_eq.1 h4
    obtain ⟨h6, h7⟩ := tst_eq.1 h5
    rw [hP] at hd
    have hd := undOf_eq hd
    rw [bor_eq, bnot_eq, Bool.or_eq_true, Bool.not_eq_true'] at h6
    split at h7
    · split at h7
      · cases h7
        cases mx0 with
        | none => exact sliceStr_ok hd hf hlo hhi
        | some m =>
          obtain ⟨f', _, h9⟩ := bind_eq.1 hmx
          cases h9
      · cases h7
    · obtain ⟨n, hn, h8⟩ := bind_eq.1 h7
      cases h8
      rw [hP] at hn
      exact slice_ok hd hn hf hlo hhi hmx (fun h => by rcases h6 with h6 | h6; rw [h] at h6; cases h6; exact h6)
    · split at h7
      · obtain ⟨n, hn, h8⟩ := bind_eq.1 h7
        cases h8
        rw [hP] at hn
        exact sliceArr_ok hd hn hf hlo hhi hmx
      · cases h7
    · cases h7
  · obtain ⟨d, hd, h1⟩ := bind_eq.1 hk
    rw [hP] at hd
    have hd := undOf_eq hd
    split at h1
    · obtain ⟨fl, hfl, h2⟩ := bind_eq.1 h1
      obtain ⟨n, hn, h3⟩ := bind_eq.1 h2
      obtain ⟨h4, h5⟩ := tst_eq.1 h3
      rw [hP] at hn
      exact fieldAddr_ok hd (ofOpt_eq.1 hfl) hn (bne0 h4) h5
    · cases h1
  · obtain ⟨d, hd, h1⟩ := bind_eq.1 hk
    rw [hP] at hd
    have hd := undOf_eq hd
    split at h1
    · obtain ⟨fl, hfl, h2⟩ := bind_eq.1 h1
      obtain ⟨b, hb, h3⟩ := bind_eq.1 h2
      obtain ⟨n, hn, h4⟩ := bind_eq.1 h3
      rw [hP] at hb hn
      rw [bsel_eq] at h4
      cases b with
      | true => rw [if_pos rfl] at h4; exact field_ok hd (ofOpt_eq.1 hfl) hb hn h4
      | false => rw [if_neg (by simp)] at h4; exact field1_ok hd (ofOpt_eq.1 hfl) hb h4
    · cases h1
  · obtain ⟨d, hd, h1⟩ := bind_eq.1 hk
    rw [hP] at hd
    have hd := undOf_eq hd
    split at h1
    · obtain ⟨n, hn, h2⟩ := bind_eq.1 h1
      rw [hP] at hn
      exact indexAddrS_ok hd hn h2
    · obtain ⟨n, hn, h2⟩ := bind_eq.1 h1
      rw [hP] at hn
      exact indexAddrA_ok hd hn h2
    · cases h1
  · obtain ⟨d, hd, h1⟩ := bind_eq.1 hk
    rw [hP] at hd
    have hd := undOf_eq hd
    split at h1
    · exact indexStr_ok hd h1
    · cases h1
  · rename_i t x y ok
    obtain ⟨d, hd, h1⟩ := bind_eq.1 hk
    rw [hP] at hd
    have hd := undOf_eq hd
    split at h1
    · obtain ⟨eq, hq, h2⟩ := bind_eq.1 h1
      obtain ⟨z, hz, h3⟩ := bind_eq.1 h2
      rw [hP] at hq hz
      rw [bsel_eq] at h3
      cases ok with
      | true => rw [if_pos rfl] at h3; exact lookOk_ok hd (keyOf_fits hq) hz h3
      | false => rw [if_neg (by simp)] at h3; exact look_ok hd (keyOf_fits hq) hz h3
    · cases h1
  · obtain ⟨d, hd, h1⟩ := bind_eq.1 hk
    rw [hP] at hd
    have hd := undOf_eq hd
    split at h1
    · obtain ⟨eq, hq, h2⟩ := bind_eq.1 h1
      obtain ⟨f1, hf1, h3⟩ := bind_eq.1 h2
      obtain ⟨f2, hf2, h4⟩ := bind_eq.1 h3
      obtain ⟨f3, hf3, h5⟩ := bind_eq.1 h4
      cases h5
      rw [hP] at hq
      exact mapUpdate_ok' (.inl rfl) hd (keyOf_fits hq) hf1 hf2 hf3
    · cases h1
  · obtain ⟨d, hd, h1⟩ := bind_eq.1 hk
    rw [hP] at hd
    have hd := undOf_eq hd
    split at h1
    · obtain ⟨eq, hq, h2⟩ := bind_eq.1 h1
      obtain ⟨f1, hf1, h3⟩ := bind_eq.1 h2
      obtain ⟨f2, hf2, h4⟩ := bind_eq.1 h3
      obtain ⟨f3, hf3, h5⟩ := bind_eq.1 h4
      cases h5
      rw [hP] at hq
      exact mapUpdate_ok' (.inr rfl) hd (keyOf_fits hq) hf1 hf2 hf3
    · cases h1
  · obtain ⟨h0, h1⟩ := tst_eq.1 hk
    subst h0
    obtain ⟨d, hd, h2⟩ := bind_eq.1 h1
    rw [hP] at hd
    have hd := undOf_eq hd
    split at h2
    · cases h2
    · rename_i hn
      obtain ⟨z, hz, h3⟩ := bind_eq.1 h2
      rw [hP] at hz
      exact assert_ok hd (fun ms h => hn ms h) hz h3
  · exact extract_ok hk
  · rename_i c
    obtain ⟨callee, args, ts⟩ := c
    split at hk
    · rename_i f hc
      obtain ⟨l, hl, h1⟩ := bind_eq.1 hk
      cases h1
      simp only at hc
      subst hc
      exact call_ok hl
    · rename_i x hn hc
      obtain ⟨gx, hg, h1⟩ := bind_eq.1 hk
      obtain ⟨l, hl, h2⟩ := bind_eq.1 h1
      cases h2
      simp only at hc
      subst hc
      exact callV_ok (fun f h => hn f h) hg hl
    · rename_i b hc
      simp only at hc
      subst hc
      exact builtin_ok hP hk
    · cases hk
  · obtain ⟨d, hd, h1⟩ := bind_eq.1 hk
    rw [hP] at hd
    have hd := undOf_eq hd
    split at h1
    · obtain ⟨eq, hq, h2⟩ := bind_eq.1 h1
      obtain ⟨z, hz, h3⟩ := bind_eq.1 h2
      obtain ⟨f1, hf1, h4⟩ := bind_eq.1 h3
      obtain ⟨f2, hf2, h5⟩ := bind_eq.1 h4
      cases h5
      rw [hP] at hq hz
      exact entry_ok hd (keyOf_fits hq) hz hf1 hf2
    · cases h1
  · obtain ⟨f1, hf1, h2⟩ := bind_eq.1 hk
    obtain ⟨f2, hf2, h3⟩ := bind_eq.1 h2
    obtain ⟨f3, hf3, h4⟩ := bind_eq.1 h3
    cases h4
    exact entryStore_ok hf1 hf2 hf3
  · cases hk
end
end Go.AX
/- The abstract executor: the numbers of blocks grow. -/
namespace Go.AX

def MonoCall (call : CallH) : Prop := ∀ f args h v h', call f args h = .ok (v, h') → num h.nx ≤ num h'.nx
def OpMono (call : CallH) : OpK → Prop
  | .mem f => ∀ l tm h v h', f call l tm h = .ok (v, h') → num h.nx ≤ num h'.nx
  | _ => True
def AOper.Mono (call : CallH) : AOper → Prop
  | .op _ k => OpMono call k
  | .grd _ _ _ k => OpMono call k
  | .dfr _ _ => True
def ACode.Mono (call : CallH) : ACode → Prop
  | .ops l => ∀ o ∈ l, o.Mono call
  | .draw l => ∀ o ∈ l, o.o.Mono call
  | .seq x y => x.Mono call ∧ y.Mono call
  | .cond _ x y => x.Mono call ∧ y.Mono call
  | .block _ x => x.Mono call
  | .loop x => x.Mono call
  | .both _ _ _ _ _ x y => x.Mono call ∧ y.Mono call
  | _ => True

section
variable {E : CE} {k : OpK} {call : CallH}
theorem pur1_mono {f : AV → R AV} {x : Operand} (hk : E.pur1 f x = .ok k) : OpMono call k := by
  obtain ⟨_, _, h⟩ := bind_eq.1 hk; cases h; trivial
theorem pur2_mono {f : AV → AV → R AV} {x y : Operand} (hk : E.pur2 f x y = .ok k) : OpMono call k := by
  obtain ⟨_, _, h⟩ := bind_eq.1 hk
  obtain ⟨_, _, h1⟩ := bind_eq.1 h; cases h1; trivial
theorem rd1_mono {f : AH → AV → R AV} {x : Operand} (hk : E.rd1 f x = .ok k) : OpMono call k := by
  obtain ⟨_, _, h⟩ := bind_eq.1 hk; cases h; trivial
theorem rd2_mono {f : AH → AV → AV → R AV} {x y : Operand} (hk : E.rd2 f x y = .ok k) : OpMono call k := by
  obtain ⟨_, _, h⟩ := bind_eq.1 hk
  obtain ⟨_, _, h1⟩ := bind_eq.1 h; cases h1; trivial
theorem binInt_mono {op : BinOp} {x y : Operand} (hk : E.binInt op x y = .ok k) : OpMono call k := by
  cases op <;> exact pur2_mono hk
theorem binStr_mono {op : BinOp} {x y : Operand} (hk : E.binStr op x y = .ok k) : OpMono call k := by
  cases op <;> first | exact pur2_mono hk | cases hk
theorem bin_mono {op : BinOp} {t : TypeId} {x y : Operand} (hk : E.bin op t x y = .ok k) : OpMono call k := by
  obtain ⟨d, hd, h1⟩ := bind_eq.1 hk
  split at h1
  · exact binInt_mono h1
  · exact binStr_mono h1
  · cases op <;> first
      | exact pur2_mono h1
      | (cases h1; done)
  · split at h1
    · obtain ⟨eq, h2, h3⟩ := bind_eq.1 h1; exact rd2_mono h3
    · obtain ⟨eq, h2, h3⟩ := bind_eq.1 h1; exact rd2_mono h3
    · cases h1
theorem fresh_mono {e : TypeId} {es n : Nat} {h : AH} {c : Q (List AV)} {r : AV × AH} (hr : fresh e es h n c = .ok r) : num h.nx ≤ num r.2.nx := by
  cases hr; rw [nx_alloc]; omega
theorem growOut_mono {e : TypeId} {h : AH} {off n es : Nat} {new : List (List AV)} {c : Q (List AV)} {r : AV × AH} (hr : growOut e h off n new es c = .ok r) : num h.nx ≤ num r.2.nx := by
  obtain ⟨_, _, h1⟩ := bind_eq.1 hr; exact fresh_mono h1
theorem growIn_mono {h : AH} {b : Id} {off n : Nat} {cap : Cap} {new : List (List AV)} {e : TypeId} {ro op : Bool} {es size : Nat} {fr : Fr} {c : Q (List AV)} {r : AV × AH} (hr : growIn h b off n cap new e ro op es size fr c = .ok r) : num h.nx ≤ num r.2.nx := by
  obtain ⟨_, h1⟩ := tst_eq.1 hr; cases h1; exact Nat.le_refl _
theorem growAny_mono {e : TypeId} {h : AH} {b : Id} {off n k : Nat} {new : List (List AV)} {ro op : Bool} {es : Nat} {fr : Fr} {c : Q (List AV)} {r : AV × AH} (hr : growAny e h b off n k new ro op es fr c = .ok r) : num h.nx ≤ num r.2.nx := by
  obtain ⟨_, h1⟩ := tst_eq.1 hr
  rw [bsel_eq] at h1
  split at h1
  · cases h1; rw [nx_alloc]; simp
  · cases fr with
    | clean => exact growOut_mono (h := h.kill b) h1
    | range a b => cases h1
    | past => cases h1
theorem appendA_mono {e : TypeId} {es : Nat} {h : AH} {v : AV} {new : List (List AV)} {r : AV × AH} (hr : appendA e es h v new = .ok r) : num h.nx ≤ num r.2.nx := by
  unfold appendA at hr
  split at hr
  · split at hr
    · cases hr; exact Nat.le_refl _
    · obtain ⟨_, h1⟩ := tst_eq.1 hr; cases h1; exact Nat.le_refl _
    · cases hr; exact Nat.le_refl _
    · cases hr; exact Nat.le_refl _
    · cases hr
  · obtain ⟨_, h1⟩ := tst_eq.1 hr
    split at h1
    · exact fresh_mono h1
    · obtain ⟨o, _, h2⟩ := bind_eq.1 h1
      obtain ⟨e1, ro, op, es', size, fr, c, rfl, h3⟩ := onRow_eq.1 h2
      obtain ⟨_, h4⟩ := tst_eq.1 h3
      split at h4
      · rw [bsel_eq] at h4
        split at h4
        · exact growIn_mono h4
        · exact growOut_mono h4
      · obtain ⟨_, h5⟩ := tst_eq.1 h4
        rw [bsel_eq] at h5
        split at h5
        · exact growIn_mono h5
        · exact growAny_mono h5
    · obtain ⟨o, _, h2⟩ := bind_eq.1 h1
      obtain ⟨e1, ro, op, es', size, fr, c, rfl, h3⟩ := onRow_eq.1 h2
      obtain ⟨_, h4⟩ := tst_eq.1 h3
      cases fr with
      | clean => exact fresh_mono (h := h.kill _) h4
      | range a b => cases h4
      | past => cases h4
    · cases h1
theorem storeF_mono {n : Nat} {x y : Opd} : OpMono call (.mem (storeF n x y)) := by
  intro l tm h v h' hh
  obtain ⟨_, _, h1⟩ := bind_eq.1 hh
  obtain ⟨_, _, h2⟩ := bind_eq.1 h1
  obtain ⟨_, _, _, h3⟩ := onPtr_eq.1 h2
  obtain ⟨_, _, h4⟩ := bind_eq.1 h3
  obtain ⟨_, h5⟩ := tst_eq.1 h4
  obtain ⟨_, _, h6⟩ := bind_eq.1 h5
  obtain ⟨_, _, h7⟩ := bind_eq.1 h6
  cases h7; exact Nat.le_refl _
theorem mapUpdateF_mono {eq : AV → AV → R Bool} {x y z : Opd} : OpMono call (.mem (mapUpdateF eq x y z)) := by
  intro l tm h v h' hh
  obtain ⟨_, _, h1⟩ := bind_eq.1 hh
  obtain ⟨_, _, h2⟩ := bind_eq.1 h1
  obtain ⟨_, _, h3⟩ := bind_eq.1 h2
  obtain ⟨_, h8, h4⟩ := bind_eq.1 h3
  obtain ⟨_, _, h8⟩ := bind_eq.1 h8
  obtain ⟨_, _, h5⟩ := onMap_eq.1 h8
  obtain ⟨_, _, h6⟩ := bind_eq.1 h5
  obtain ⟨_, _, h7⟩ := bind_eq.1 h6
  cases h7; cases h4; exact Nat.le_refl _
theorem appendF_mono {e : TypeId} {es : Nat} {x y : Opd} : OpMono call (.mem (appendF e es x y)) := by
  intro l tm h v h' hh
  obtain ⟨_, _, h1⟩ := bind_eq.1 hh
  obtain ⟨_, _, h2⟩ := bind_eq.1 h1
  obtain ⟨_, _, h3⟩ := bind_eq.1 h2
  exact appendA_mono h3
theorem unsafeStringF_mono {e : TypeId} {x y : Opd} : OpMono call (.mem (unsafeStringF e x y)) := by
  intro l tm h v h' hh
  obtain ⟨_, _, h1⟩ := bind_eq.1 hh
  obtain ⟨_, _, h2⟩ := bind_eq.1 h1
  obtain ⟨n, _, h3⟩ := bind_eq.1 h2
  cases n with
  | zero =>
    simp only at h3
    split at h3
    · cases h3; exact Nat.le_refl _
    · cases h3; exact Nat.le_refl _
    · cases h3
  | succ n =>
    obtain ⟨_, _, _, h4⟩ := onPtr_eq.1 h3
    obtain ⟨_, _, h5⟩ := bind_eq.1 h4
    obtain ⟨e1, ro, op, es', size, fr, c, rfl, h6⟩ := onRow_eq.1 h5
    obtain ⟨_, h7⟩ := tst_eq.1 h6
    obtain ⟨_, _, h8⟩ := bind_eq.1 h7
    obtain ⟨_, _, h9⟩ := bind_eq.1 h8
    obtain ⟨_, _, h10⟩ := bind_eq.1 h9
    cases h10; exact Nat.le_refl _
theorem callF_mono (hm : MonoCall call) {f : FuncId} {q : List Opd} : OpMono call (.mem (callF f q)) := by
  intro l tm h v h' hh
  obtain ⟨_, _, h1⟩ := bind_eq.1 hh
  exact hm _ _ _ _ _ h1
theorem callVF_mono (hm : MonoCall call) {x : Opd} {q : List Opd} : OpMono call (.mem (callVF x q)) := by
  intro l tm h v h' hh
  obtain ⟨_, _, h1⟩ := bind_eq.1 hh
  obtain ⟨_, _, _, _, h2⟩ := onFunc_eq.1 h1
  obtain ⟨_, _, h3⟩ := bind_eq.1 h2
  exact hm _ _ _ _ _ h3
theorem builtin2_mono {b : Builtin} {args : List Operand} {ts : List TypeId} (hk : E.builtin2 b args ts = .ok k) : OpMono call k := by
  unfold CE.builtin2 at hk
  split at hk
  · split at hk
    · obtain ⟨d, hd, h1⟩ := bind_eq.1 hk
      split at h1
      · obtain ⟨i, hi, h2⟩ := bind_eq.1 h1
        obtain ⟨zv, hz, h3⟩ := bind_eq.1 h2
        obtain ⟨z, hza, h4⟩ := bind_eq.1 h3
        obtain ⟨zl, hzc, h5⟩ := bind_eq.1 h4
        obtain ⟨h6, h7⟩ := tst_eq.1 h5
        obtain ⟨f, hf, h8⟩ := bind_eq.1 h7
        cases h8
        intro l tm h v h' hh
        obtain ⟨v1, _, hh⟩ := bind_eq.1 hh
        unfold clearA at hh
        split at hh
        · cases hh; exact Nat.le_refl _
        · cases hh; exact Nat.le_refl _
        · rw [bsel_eq] at hh
          split at hh
          · cases hh; exact Nat.le_refl _
          · obtain ⟨o, _, hh⟩ := bind_eq.1 hh
            obtain ⟨e', ro, op, es', size, fr, c, rfl, hh⟩ := onRow_eq.1 hh
            obtain ⟨_, hh⟩ := tst_eq.1 hh
            cases hh
            exact Nat.le_refl _
        · cases hh
      · cases h1
    · cases hk
  · split at hk
    · obtain ⟨h0, h1⟩ := tst_eq.1 hk
      split at h1
      · obtain ⟨n, hn, h2⟩ := bind_eq.1 h1
        obtain ⟨f, hf, h3⟩ := bind_eq.1 h2
        obtain ⟨f', hf', h4⟩ := bind_eq.1 h3
        cases h4
        intro l tm h v h' hh
        obtain ⟨v1, _, hh⟩ := bind_eq.1 hh
        obtain ⟨v2, _, hh⟩ := bind_eq.1 hh
        obtain ⟨new, _, hh⟩ := bind_eq.1 hh
        split at hh
        · obtain ⟨o, _, hh⟩ := bind_eq.1 hh
          obtain ⟨e', ro, op, es', size, fr, c, rfl, hh⟩ := onRow_eq.1 hh
          obtain ⟨_, hh⟩ := tst_eq.1 hh
          cases hh
          exact Nat.le_refl _
        · cases hh
      · cases h1
    · cases hk
  · cases hk
theorem builtin_mono {b : Builtin} {args : List Operand} {ts : List TypeId} (hk : E.builtin b args ts = .ok k) : OpMono call k := by
  unfold CE.builtin at hk
  split at hk
  · split at hk
    · obtain ⟨d, hd, h1⟩ := bind_eq.1 hk
      split at h1
      · exact pur1_mono h1
      · exact pur1_mono h1
      · exact rd1_mono h1
      · cases h1
    · cases hk
  · split at hk
    · obtain ⟨h0, h1⟩ := tst_eq.1 hk
      split at h1
      · obtain ⟨i, hi, h2⟩ := bind_eq.1 h1
        obtain ⟨h3, h2⟩ := tst_eq.1 h2
        obtain ⟨f, hf, h4⟩ := bind_eq.1 h2
        obtain ⟨f', hf', h5⟩ := bind_eq.1 h4
        split at h5
        · obtain ⟨h6, h7⟩ := tst_eq.1 h5
          cases h7
          exact appendF_mono
        · cases h5
      · cases h1
    · cases hk
  · exact pur2_mono hk
  · exact pur2_mono hk
  · exact pur1_mono hk
  · split at hk
    · split at hk
      · split at hk
        · obtain ⟨n, hn, h1⟩ := bind_eq.1 hk
          obtain ⟨h2, h3⟩ := tst_eq.1 h1
          obtain ⟨f, hf, h4⟩ := bind_eq.1 h3
          obtain ⟨f', hf', h5⟩ := bind_eq.1 h4
          cases h5
          exact unsafeStringF_mono
        · cases hk
      · cases hk
    · cases hk
  · split at hk
    · obtain ⟨d, hd, h1⟩ := bind_eq.1 hk
      split at h1
      · obtain ⟨eq, he, h2⟩ := bind_eq.1 h1
        obtain ⟨f, hf, h3⟩ := bind_eq.1 h2
        obtain ⟨f', hf', h4⟩ := bind_eq.1 h3
        cases h4
        intro l tm h v h' hh
        obtain ⟨m1, _, hh⟩ := bind_eq.1 hh
        obtain ⟨k1, _, hh⟩ := bind_eq.1 hh
        unfold delA at hh
        obtain ⟨_, _, hh⟩ := bind_eq.1 hh
        split at hh
        · obtain ⟨o, _, hh⟩ := bind_eq.1 hh
          obtain ⟨o', _, hh⟩ := bind_eq.1 hh
          cases hh
          exact Nat.le_refl _
        · cases hh; exact Nat.le_refl _
        · cases hh
      · cases h1
    · cases hk
  · exact builtin2_mono hk
theorem convert_mono {s d : TypeId} {x : Operand} (hk : E.convert s d x = .ok k) : OpMono call k := by
  obtain ⟨sd, hs, h1⟩ := bind_eq.1 hk
  obtain ⟨dd, hd, h2⟩ := bind_eq.1 h1
  split at h2
  · split at h2
    · exact pur1_mono h2
    · exact pur1_mono h2
  · split at h2
    · exact pur1_mono h2
    · cases h2
  · split at h2
    · obtain ⟨n, hn, h3⟩ := bind_eq.1 h2
      obtain ⟨h4, h5⟩ := tst_eq.1 h3
      exact rd1_mono h5
    · cases h2
  · split at h2
    · obtain ⟨n, hn, h3⟩ := bind_eq.1 h2
      exact rd1_mono h3
    · cases h2
  · split at h2
    · split at h2
      · obtain ⟨f, hf, h3⟩ := bind_eq.1 h2
        cases h3
        intro l tm h v h' hh
        obtain ⟨u, e1, hh1⟩ := bind_eq.1 hh
        obtain ⟨new, e2, hh2⟩ := bind_eq.1 hh1
        cases hh2
        rw [nx_alloc]; omega
      · cases h2
    · cases h2
  · split at h2
    · split at h2
      · exact rd1_mono h2
      · cases h2
    · exact pur1_mono h2
    · exact pur1_mono h2
    · cases h2
  · cases h2
theorem op_mono (hm : MonoCall call) {op : Op} (hk : E.op op = .ok k) : OpMono call k := by
  unfold CE.op at hk
  split at hk
  · obtain ⟨f, hf, h1⟩ := bind_eq.1 hk; cases h1; trivial
  · obtain ⟨f, hf, h1⟩ := bind_eq.1 hk; cases h1; trivial
  · obtain ⟨c, hc, h1⟩ := bind_eq.1 hk
    obtain ⟨a, ha, h2⟩ := bind_eq.1 h1
    obtain ⟨b, hb, h3⟩ := bind_eq.1 h2
    cases h3; trivial
  · obtain ⟨z, hz, h1⟩ := bind_eq.1 hk
    obtain ⟨l, hl, h2⟩ := bind_eq.1 h1
    cases h2; trivial
  · obtain ⟨f, hf, h1⟩ := bind_eq.1 hk; cases h1; trivial
  · obtain ⟨z, hz, h1⟩ := bind_eq.1 hk
    obtain ⟨l, hl, h2⟩ := bind_eq.1 h1
    obtain ⟨d, hd, h3⟩ := bind_eq.1 h2
    split at h3
    · obtain ⟨q, hq, h4⟩ := bind_eq.1 h3
      obtain ⟨ss, hs, h5⟩ := bind_eq.1 h4
      cases h5; trivial
    · obtain ⟨n, hn, h4⟩ := bind_eq.1 h3
      obtain ⟨q, hq, h5⟩ := bind_eq.1 h4
      cases h5; trivial
    · cases h3
  · obtain ⟨d, hd, h1⟩ := bind_eq.1 hk
    split at h1
    · obtain ⟨i, hi, h2⟩ := bind_eq.1 h1
      obtain ⟨h3, h4⟩ := tst_eq.1 h2
      obtain ⟨q, hq, h5⟩ := bind_eq.1 h4
      split at h5
      · cases h5; trivial
      · cases h5
    · cases h1
  · obtain ⟨b, hb, h1⟩ := bind_eq.1 hk
    obtain ⟨n, hn, h2⟩ := bind_eq.1 h1
    obtain ⟨f, hf, h3⟩ := bind_eq.1 h2
    rw [bsel_eq] at h3
    split at h3 <;> (cases h3; trivial)
  · obtain ⟨n, hn, h1⟩ := bind_eq.1 hk
    obtain ⟨f, hf, h2⟩ := bind_eq.1 h1
    obtain ⟨f', hf', h3⟩ := bind_eq.1 h2
    cases h3
    exact storeF_mono
  · exact pur1_mono hk
  · exact bin_mono hk
  · split at hk
    · exact pur1_mono hk
    · exact pur1_mono hk
    · cases hk
  · exact convert_mono hk
  · obtain ⟨d, hd, h1⟩ := bind_eq.1 hk
    split at h1
    · cases h1
    · exact pur1_mono h1
  · split at hk
    · obtain ⟨l, hl, h1⟩ := bind_eq.1 hk
      obtain ⟨m, hm, h2⟩ := bind_eq.1 h1
      cases h2; trivial
    · cases hk
  · split at hk
    · cases hk; trivial
    · obtain ⟨d, hd, h1⟩ := bind_eq.1 hk
      split at h1
      · obtain ⟨f, hf, h2⟩ := bind_eq.1 h1
        cases h2; trivial
      · cases h1
  · obtain ⟨d, hd, h1⟩ := bind_eq.1 hk
    split at h1
    · obtain ⟨i, hi, h2⟩ := bind_eq.1 h1
      obtain ⟨z, hz, h3⟩ := bind_eq.1 h2
      obtain ⟨za, hza, h4⟩ := bind_eq.1 h3
      obtain ⟨l, hl, h5⟩ := bind_eq.1 h4
      obtain ⟨h6, h7⟩ := tst_eq.1 h5
      obtain ⟨f, hf, h8⟩ := bind_eq.1 h7
      obtain ⟨f', hf', h9⟩ := bind_eq.1 h8
      cases h9; trivial
    · cases h1
  · obtain ⟨d, hd, h1⟩ := bind_eq.1 hk
    obtain ⟨f, hf, h2⟩ := bind_eq.1 h1
    obtain ⟨lo, hlo, h3⟩ := bind_eq.1 h2
    obtain ⟨hi, hhi, h4⟩ := bind_eq.1 h3
    obtain ⟨mx, hmx, h5⟩ := bind_eq.1 h4
    obtain ⟨h6, h7⟩ := tst_eq.1 h5
    split at h7
    · split at h7
      · cases h7; trivial
      · cases h7
    · obtain ⟨n, hn, h8⟩ := bind_eq.1 h7
      cases h8; trivial
    · split at h7
      · obtain ⟨n, hn, h8⟩ := bind_eq.1 h7
        cases h8; trivial
      · cases h7
    · cases h7
  · obtain ⟨d, hd, h1⟩ := bind_eq.1 hk
    split at h1
    · obtain ⟨fl, hfl, h2⟩ := bind_eq.1 h1
      obtain ⟨n, hn, h3⟩ := bind_eq.1 h2
      obtain ⟨h4, h5⟩ := tst_eq.1 h3
      exact pur1_mono h5
    · cases h1
  · obtain ⟨d, hd, h1⟩ := bind_eq.1 hk
    split at h1
    · obtain ⟨fl, hfl, h2⟩ := bind_eq.1 h1
      obtain ⟨b, hb, h3⟩ := bind_eq.1 h2
      obtain ⟨n, hn, h4⟩ := bind_eq.1 h3
      rw [bsel_eq] at h4
      split at h4 <;> exact pur1_mono h4
    · cases h1
  · obtain ⟨d, hd, h1⟩ := bind_eq.1 hk
    split at h1
    · obtain ⟨n, hn, h2⟩ := bind_eq.1 h1; exact pur2_mono h2
    · obtain ⟨n, hn, h2⟩ := bind_eq.1 h1; exact pur2_mono h2
    · cases h1
  · obtain ⟨d, hd, h1⟩ := bind_eq.1 hk
    split at h1
    · exact pur2_mono h1
    · cases h1
  · obtain ⟨d, hd, h1⟩ := bind_eq.1 hk
    split at h1
    · obtain ⟨eq, hq, h2⟩ := bind_eq.1 h1
      obtain ⟨z, hz, h3⟩ := bind_eq.1 h2
      rw [bsel_eq] at h3
      split at h3 <;> exact rd2_mono h3
    · cases h1
  · obtain ⟨d, hd, h1⟩ := bind_eq.1 hk
    split at h1
    · obtain ⟨eq, hq, h2⟩ := bind_eq.1 h1
      obtain ⟨f1, hf1, h3⟩ := bind_eq.1 h2
      obtain ⟨f2, hf2, h4⟩ := bind_eq.1 h3
      obtain ⟨f3, hf3, h5⟩ := bind_eq.1 h4
      cases h5
      exact mapUpdateF_mono
    · cases h1
  · obtain ⟨d, hd, h1⟩ := bind_eq.1 hk
    split at h1
    · obtain ⟨eq, hq, h2⟩ := bind_eq.1 h1
      obtain ⟨f1, hf1, h3⟩ := bind_eq.1 h2
      obtain ⟨f2, hf2, h4⟩ := bind_eq.1 h3
      obtain ⟨f3, hf3, h5⟩ := bind_eq.1 h4
      cases h5
      exact mapUpdateF_mono
    · cases h1
  · obtain ⟨h0, h1⟩ := tst_eq.1 hk
    obtain ⟨d, hd, h2⟩ := bind_eq.1 h1
    split at h2
    · cases h2
    · obtain ⟨z, hz, h3⟩ := bind_eq.1 h2
      exact pur1_mono h3
  · exact pur1_mono hk
  · split at hk
    · obtain ⟨l, hl, h1⟩ := bind_eq.1 hk
      cases h1
      exact callF_mono hm
    · obtain ⟨gx, hg, h1⟩ := bind_eq.1 hk
      obtain ⟨l, hl, h2⟩ := bind_eq.1 h1
      cases h2
      exact callVF_mono hm
    · exact builtin_mono hk
    · cases hk
  · obtain ⟨d, hd, h1⟩ := bind_eq.1 hk
    split at h1
    · obtain ⟨eq, hq, h2⟩ := bind_eq.1 h1
      obtain ⟨z, hz, h3⟩ := bind_eq.1 h2
      obtain ⟨f1, hf1, h4⟩ := bind_eq.1 h3
      obtain ⟨f2, hf2, h5⟩ := bind_eq.1 h4
      cases h5
      intro l tm h v h' hh
      obtain ⟨m1, _, hh⟩ := bind_eq.1 hh
      obtain ⟨k1, _, hh⟩ := bind_eq.1 hh
      obtain ⟨_, _, hh⟩ := bind_eq.1 hh
      obtain ⟨b, _, hh⟩ := onMap_eq.1 hh
      obtain ⟨o, _, hh⟩ := bind_eq.1 hh
      obtain ⟨o', _, hh⟩ := bind_eq.1 hh
      cases hh
      exact Nat.le_refl _
    · cases h1
  · obtain ⟨f1, hf1, h2⟩ := bind_eq.1 hk
    obtain ⟨f2, hf2, h3⟩ := bind_eq.1 h2
    obtain ⟨f3, hf3, h4⟩ := bind_eq.1 h3
    cases h4
    intro l tm h v h' hh
    obtain ⟨m1, _, hh⟩ := bind_eq.1 hh
    obtain ⟨k1, _, hh⟩ := bind_eq.1 hh
    obtain ⟨v1, _, hh⟩ := bind_eq.1 hh
    obtain ⟨b, _, hh⟩ := onMap_eq.1 hh
    obtain ⟨n, _, hh⟩ := bind_eq.1 hh
    obtain ⟨o, _, hh⟩ := bind_eq.1 hh
    obtain ⟨o', _, hh⟩ := bind_eq.1 hh
    cases hh
    exact Nat.le_refl _
  · cases hk
end
end Go.AX
/- The abstract executor: states. -/
namespace Go.AX

structure EnvOk (ρ : Rho) (E : CE) (l : List AV) (tm : Q AV) (ts : Array Value) : Prop where
  size : ts.size = E.nt
  slot : ∀ (t : Nat) (v : AV), E.mask.testBit t = true → Q.get (pathOf t) tm = some v → ∃ x, ts[t]? = some x ∧ den ρ v = some x
  len : l.length = E.ns.length
  near : ∀ (k t : Nat) (v : AV), E.ns[k]? = some t → l[k]? = some v → E.mask.testBit t = false ∧ ∃ x, ts[t]? = some x ∧ den ρ v = some x
def DfOk (ρ : Rho) : List ADefer → List Deferred → Prop
  | [], [] => True
  | d :: r, x :: s => (∃ cap : Array Value, x.target = .fn (.func d.f) cap ∧ denL ρ d.args = some (x.args ++ cap).toList) ∧ DfOk ρ r s
  | _, _ => False
structure StOk (P : Program) (ρ : Rho) (E : CE) (s : St) (a : Act) (w : World) : Prop where
  env : EnvOk ρ E s.l s.tm a.tmps
  mem : Mem P ρ s.hp w
  df : DfOk ρ s.df a.defers
theorem EnvOk.mono {ρ ρ' : Rho} (hl : ρ.le ρ') {E : CE} {l : List AV} {tm : Q AV} {ts : Array Value} (h : EnvOk ρ E l tm ts) : EnvOk ρ' E l tm ts :=
  ⟨h.size, fun t v h1 h2 => let ⟨x, h3, h4⟩ := h.slot t v h1 h2; ⟨x, h3, den_mono hl h4⟩, h.len, fun k t v h1 h2 => let ⟨h0, x, h3, h4⟩ := h.near k t v h1 h2; ⟨h0, x, h3, den_mono hl h4⟩⟩
theorem DfOk.mono {ρ ρ' : Rho} (hl : ρ.le ρ') : ∀ {l : List ADefer} {s : List Deferred}, DfOk ρ l s → DfOk ρ' l s
  | [], [], _ => trivial
  | _ :: _, _ :: _, h => ⟨let ⟨c, h1, h2⟩ := h.1; ⟨c, h1, denL_mono hl h2⟩, DfOk.mono hl h.2⟩
  | [], _ :: _, h => h.elim
  | _ :: _, [], h => h.elim
structure Grows (E : CE) (l : List AV) (E' : CE) (l' : List AV) : Prop where
  ex : ∃ m n, l' = m ++ l ∧ E'.ns = n ++ E.ns ∧ m.length = n.length
  nt : E'.nt = E.nt
  mask : E'.mask = E.mask
  prog : E'.P = E.P
theorem Grows.refl (E : CE) (l : List AV) : Grows E l E l := ⟨⟨[], [], rfl, rfl, rfl⟩, rfl, rfl, rfl⟩
theorem Grows.trans {E E' E'' : CE} {l l' l'' : List AV} (h : Grows E l E' l') (h' : Grows E' l' E'' l'') : Grows E l E'' l'' := by
  obtain ⟨m, n, h1, h2, h3⟩ := h.ex
  obtain ⟨m', n', g1, g2, g3⟩ := h'.ex
  exact ⟨⟨m' ++ m, n' ++ n, by rw [g1, h1, List.append_assoc], by rw [g2, h2, List.append_assoc], by simp [h3, g3]⟩, h'.nt.trans h.nt, h'.mask.trans h.mask, h'.prog.trans h.prog⟩
theorem Grows.back {ρ : Rho} {E E' : CE} {l l' : List AV} {tm : Q AV} {ts : Array Value} (h : Grows E l E' l') (he : EnvOk ρ E' l' tm ts) : EnvOk ρ E l tm ts := by
  obtain ⟨m, n, h1, h2, h3⟩ := h.ex
  have hlen := he.len
  rw [h1, h2] at hlen
  simp at hlen
  refine ⟨he.size.trans h.nt, fun t v h4 h5 => he.slot t v (by rw [h.mask]; exact h4) h5, by omega, fun k t v h4 h5 => ?_⟩
  have := he.near (m.length + k) t v (by rw [h2, List.getElem?_append_right (by omega), h3]; simpa using h4) (by rw [h1, List.getElem?_append_right (by omega)]; simpa using h5)
  rw [h.mask] at this
  exact this

theorem idxOf_cons (t n : Nat) (ns : List Nat) (i : Nat) : idxOf t (n :: ns) i = bsel (Nat.beq n t) (.ok i) (idxOf t ns (i + 1)) := rfl
theorem idxOf_ok {t : Nat} : ∀ {ns : List Nat} {i k : Nat}, idxOf t ns i = .ok k → ∃ j, k = i + j ∧ ns[j]? = some t
  | [], i, k, h => by cases h
  | n :: ns, i, k, h => by
    rw [idxOf_cons, bsel_eq] at h
    split at h
    · rename_i h0
      rw [natBeq_eq] at h0
      cases h
      exact ⟨0, rfl, by simp [h0]⟩
    · obtain ⟨j, h1, h2⟩ := idxOf_ok h
      exact ⟨j + 1, by omega, by simpa using h2⟩
theorem idxOf_some {t : Nat} : ∀ {ns : List Nat} {i j : Nat}, ns[j]? = some t → ∃ k, idxOf t ns i = .ok k
  | [], i, j, h => by simp at h
  | n :: ns, i, j, h => by
    rw [idxOf_cons, bsel_eq]
    split
    · exact ⟨_, rfl⟩
    · rename_i h0
      rw [natBeq_eq] at h0
      cases j with
      | zero => simp at h; exact absurd h h0
      | succ j => exact idxOf_some (by simpa using h)
theorem opd_ok {P : Program} {ρ : Rho} {E : CE} {l : List AV} {tm : Q AV} {a : Act} {h : AH} {w : World} (hP : E.P = P) (m : Mem P ρ h w) (he : EnvOk ρ E l tm a.tmps) (x : Operand) : OpdOk ρ E l tm a.eval x := by
  intro f v hf hv
  cases x with
  | tmp t =>
    have hf : bsel (E.mask.testBit t) (.ok (T (pathOf t))) ((idxOf t E.ns 0).bind fun k => .ok (L k)) = .ok f := hf
    have get : ∀ y, a.tmps[t]? = some y → a.eval (.tmp t) = y := by
      intro y hy
      show a.tmps.getD t undef = y
      rw [Array.getD_eq_getD_getElem?, hy]; rfl
    rw [bsel_eq] at hf
    split at hf
    · rename_i hm
      cases hf
      obtain ⟨y, h1, h2⟩ := he.slot t v hm (Q.at_eq.1 hv)
      rw [get y h1]; exact h2
    · obtain ⟨k, h1, h2⟩ := bind_eq.1 hf
      cases h2
      obtain ⟨j, rfl, h3⟩ := idxOf_ok h1
      have hv := ofOpt_eq.1 hv
      rw [nth_eq, Nat.zero_add] at hv
      obtain ⟨_, y, h4, h5⟩ := he.near j t v h3 hv
      rw [get y h4]; exact h5
  | const c =>
    obtain ⟨av, h1, h2⟩ := bind_eq.1 hf
    cases h2
    cases hv
    exact absV_ok h1
  | global g =>
    obtain ⟨h1, h2⟩ := tst_eq.1 hf
    cases h2
    cases hv
    rw [natBlt_eq, hP] at h1
    obtain ⟨c, hc⟩ := m.glob g (Nat.lt_succ_of_lt h1)
    exact den_ptr ρ hc 0
  | func f =>
    cases hf
    cases hv
    simp only [den, denL]
    rfl

def Dst.l (d : Dst) (v : AV) (l : List AV) : List AV := match d with
  | .loc => v :: l
  | _ => l
noncomputable def Dst.t (d : Dst) (v : AV) (tm : Q AV) : Q AV := match d with
  | .slot p => Q.set p (some v) tm
  | _ => tm
theorem putK_eq (d : Dst) (K : K) (v : AV) (l : List AV) (tm : Q AV) (h : AH) (df : List ADefer) : putK d K v l tm h df = K (d.l v l) (d.t v tm) h df := by cases d <;> rfl
theorem put_tmps (a : Act) (t : Nat) (x : Value) (u : Nat) (ht : t < a.tmps.size) : (a.put (some t) x).tmps[u]? = if t = u then some x else a.tmps[u]? := by
  show (a.tmps.setIfInBounds t x)[u]? = _
  rw [Array.getElem?_setIfInBounds]
  by_cases h : t = u
  · subst h; simp [ht]
  · simp [h]
theorem put_defers (a : Act) (d : Option Tmp) (x : Value) : (a.put d x).defers = a.defers := by cases d <;> rfl
theorem put_env {ρ : Rho} {E E' : CE} {l : List AV} {tm : Q AV} {a : Act} {d : Option Tmp} {dd : Dst} {v : AV} {x : Value} (hd : E.dst d = .ok (dd, E')) (he : EnvOk ρ E l tm a.tmps) (hx : den ρ v = some x) :
    EnvOk ρ E' (dd.l v l) (dd.t v tm) (a.put d x).tmps ∧ Grows E l E' (dd.l v l) := by
  cases d with
  | none => cases hd; exact ⟨he, Grows.refl _ _⟩
  | some t =>
    obtain ⟨h1, h2⟩ := tst_eq.1 hd
    rw [natBlt_eq, ← he.size] at h1
    have hsz : (a.put (some t) x).tmps.size = a.tmps.size := by show (a.tmps.setIfInBounds t x).size = _; simp
    rw [bsel_eq] at h2
    split at h2
    · rename_i hm
      cases h2
      refine ⟨⟨hsz.trans he.size, fun u z h3 h4 => ?_, he.len, fun k u z h3 h4 => ?_⟩, Grows.refl _ _⟩
      · rw [put_tmps a t x u h1]
        have h4 : Q.get (pathOf u) (Q.set (pathOf t) (some v) tm) = some z := h4
        rw [Q.get_set] at h4
        by_cases e : t = u
        · subst e
          rw [if_pos rfl] at h4
          cases h4
          exact ⟨x, by simp, hx⟩
        · rw [if_neg (fun h => e (pathOf_inj h).symm)] at h4
          rw [if_neg e]
          exact he.slot u z h3 h4
      · rw [put_tmps a t x u h1]
        obtain ⟨h5, h6⟩ := he.near k u z h3 h4
        rw [if_neg (fun e => by subst e; rw [hm] at h5; cases h5)]
        exact ⟨h5, h6⟩
    · rename_i hm
      generalize hi : idxOf t E.ns 0 = r at h2
      cases r with
      | ok k => cases h2
      | err _ =>
        have h2 : R.ok (Dst.loc, (⟨E.P, E.nt, E.mask, t :: E.ns⟩ : CE)) = .ok (dd, E') := h2
        cases h2
        have hno : ∀ j, E.ns[j]? ≠ some t := fun j hj => by
          obtain ⟨k, hk⟩ := idxOf_some (i := 0) hj
          rw [hk] at hi; cases hi
        refine ⟨⟨hsz.trans he.size, fun u z h3 h4 => ?_, by show (v :: l).length = (t :: E.ns).length; simp [he.len], fun k u z h3 h4 => ?_⟩, ⟨⟨[v], [t], rfl, rfl, rfl⟩, rfl, rfl, rfl⟩⟩
        · rw [put_tmps a t x u h1, if_neg (fun e => by subst e; exact hm h3)]
          exact he.slot u z h3 h4
        · rw [put_tmps a t x u h1]
          cases k with
          | zero =>
            have h3 : some t = some u := h3
            have h4 : some v = some z := h4
            cases h3; cases h4
            exact ⟨by simpa using hm, x, by simp, hx⟩
          | succ k =>
            have h3 : E.ns[k]? = some u := h3
            have h4 : l[k]? = some z := h4
            rw [if_neg (fun e => by subst e; exact hno k h3)]
            exact he.near k u z h3 h4
end Go.AX
/- The abstract executor: a region whose order is told. -/
namespace Go.AX

theorem opK_pur (call : CallH) (d : Dst) (f : Opd) (K : K) (l : List AV) (tm : Q AV) (h : AH) (df : List ADefer) : opK call d (.pur f) K l tm h df = R.rec (motive := fun _ => CR) (fun v => putK d K v l tm h df) CR.err (f l tm) := rfl
theorem opK_rd (call : CallH) (d : Dst) (f : List AV → Q AV → AH → R AV) (K : K) (l : List AV) (tm : Q AV) (h : AH) (df : List ADefer) : opK call d (.rd f) K l tm h df = R.rec (motive := fun _ => CR) (fun v => putK d K v l tm h df) CR.err (f l tm h) := rfl
theorem opK_alc (call : CallH) (d : Dst) (f : List AV → Q AV → Id → R (AV × AO)) (K : K) (l : List AV) (tm : Q AV) (h : AH) (df : List ADefer) : opK call d (.alc f) K l tm h df = R.rec (motive := fun _ => CR) (fun r => putK d K r.1 l tm (h.alloc r.2) df) CR.err (f l tm h.nx) := rfl
theorem opK_mem (call : CallH) (d : Dst) (f : CallH → List AV → Q AV → AH → R (AV × AH)) (K : K) (l : List AV) (tm : Q AV) (h : AH) (df : List ADefer) : opK call d (.mem f) K l tm h df = R.rec (motive := fun _ => CR) (fun r => putK d K r.1 l tm r.2 df) CR.err (f call l tm h) := rfl
theorem rec_norm {α : Type} {x : R α} {f : α → CR} {s : St} (h : R.rec (motive := fun _ => CR) f CR.err x = .norm s) : ∃ a, x = .ok a ∧ f a = .norm s := by
  cases x with
  | ok a => exact ⟨a, rfl, h⟩
  | err l => cases h
theorem opK_mono {call : CallH} {d : Dst} {k : OpK} {K : K} {l : List AV} {tm : Q AV} {h : AH} {df : List ADefer} {s : St} (ho : OpMono call k) (hK : ∀ l tm h df, K l tm h df = .norm s → num h.nx ≤ num s.hp.nx) (hr : opK call d k K l tm h df = .norm s) : num h.nx ≤ num s.hp.nx := by
  cases k with
  | pur f =>
    rw [opK_pur] at hr
    obtain ⟨v, _, h2⟩ := rec_norm hr
    rw [putK_eq] at h2
    exact hK _ _ _ _ h2
  | rd f =>
    rw [opK_rd] at hr
    obtain ⟨v, _, h2⟩ := rec_norm hr
    rw [putK_eq] at h2
    exact hK _ _ _ _ h2
  | alc f =>
    rw [opK_alc] at hr
    obtain ⟨v, _, h2⟩ := rec_norm hr
    rw [putK_eq] at h2
    have := hK _ _ _ _ h2
    rw [nx_alloc] at this; omega
  | mem f =>
    rw [opK_mem] at hr
    obtain ⟨v, h1, h2⟩ := rec_norm hr
    rw [putK_eq] at h2
    exact Nat.le_trans (ho _ _ _ _ _ h1) (hK _ _ _ _ h2)
theorem operK_mono {call : CallH} {o : AOper} {K : K} {l : List AV} {tm : Q AV} {h : AH} {df : List ADefer} {s : St} (ho : o.Mono call) (hK : ∀ l tm h df, K l tm h df = .norm s → num h.nx ≤ num s.hp.nx) (hr : operK call o K l tm h df = .norm s) : num h.nx ≤ num s.hp.nx := by
  cases o with
  | op d k => exact opK_mono ho hK hr
  | grd g want d k =>
    obtain ⟨v, _, h2⟩ := rec_norm hr
    rw [bsel_eq] at h2
    split at h2
    · exact opK_mono ho hK h2
    · rw [putK_eq] at h2; exact hK _ _ _ _ h2
  | dfr f args =>
    obtain ⟨v, _, h2⟩ := rec_norm hr
    exact hK _ _ _ _ h2
theorem opsK_cons (call : CallH) (o : AOper) (as : List AOper) : opsK call (o :: as) = operK call o (opsK call as) := rfl
theorem opsK_mono {call : CallH} {s : St} : ∀ {as : List AOper} {l : List AV} {tm : Q AV} {h : AH} {df : List ADefer}, (∀ o ∈ as, o.Mono call) → opsK call as l tm h df = .norm s → num h.nx ≤ num s.hp.nx
  | [], l, tm, h, df, _, hr => by
    have hr : CR.norm ⟨l, tm, h, df⟩ = .norm s := hr
    cases hr; exact Nat.le_refl _
  | o :: as, l, tm, h, df, ho, hr => by
    rw [opsK_cons] at hr
    exact operK_mono (ho o (by simp)) (fun l tm h df hk => opsK_mono (fun x hx => ho x (by simp [hx])) hk) hr
theorem den_bool_eq {ρ : Rho} {v : AV} {b : Bool} (h : den ρ v = some (.bool b)) : v = .bool b := by
  cases v with
  | bool c => rw [den_bool] at h; cases h; rfl
  | slc b o n c => obtain ⟨l, cap, _, h, _⟩ := den_slc_eq h; cases h
  | slcE b o n c =>
    simp only [den, Option.map_eq_some_iff] at h
    obtain ⟨l, _, h⟩ := h
    split at h <;> cases h
  | func f a c =>
    obtain ⟨_, _, _, _, h⟩ := den_func_eq h
    cases h
  | agg l => obtain ⟨_, _, _, h⟩ := den_agg_eq h; cases h
  | tuple l => obtain ⟨_, _, h⟩ := den_tuple_eq h; cases h
  | _ => first
    | (simp only [den, Option.some.injEq] at h; cases h; done)
    | (simp only [den, Option.map_eq_some_iff] at h; obtain ⟨l, _, h⟩ := h; cases h)
    | (simp only [den, Option.bind_eq_some_iff] at h; obtain ⟨l, _, h⟩ := h; split at h <;> cases h)
    | (simp only [den, Option.bind_eq_some_iff, Option.map_eq_some_iff] at h; obtain ⟨l, _, s, _, h⟩ := h; cases h)

section
variable {P : Program} {X : Ext} {call : CallH}
def Next (P : Program) (ρ : Rho) (h : AH) (w : World) (E : CE) (l : List AV) (E1 : CE) (K : K) (s : St) (df1 : List ADefer) (next : Act → World → Prop) : Prop :=
  ∀ ρ1 a1 w1 l1 tm1 h1, Step ρ h w ρ1 h1 w1 → StOk P ρ1 E1 ⟨l1, tm1, h1, df1⟩ a1 w1 → Grows E l E1 l1 → K l1 tm1 h1 df1 = .norm s → Free ρ1 h1 s.hp → next a1 w1
theorem next_put {ρ ρ1 : Rho} {h h1 : AH} {w w1 : World} {E E1 : CE} {l : List AV} {tm : Q AV} {df : List ADefer} {a : Act} {K : K} {s : St} {d : Option Tmp} {dd : Dst} {v : AV} {x : Value} {next : Act → World → Prop}
    (hd : E.dst d = .ok (dd, E1)) (st : StOk P ρ E ⟨l, tm, h, df⟩ a w) (hs : Step ρ h w ρ1 h1 w1) (m1 : Mem P ρ1 h1 w1) (hx : den ρ1 v = some x) (hr : putK dd K v l tm h1 df = .norm s) (hf : Free ρ h s.hp)
    (hn : Next P ρ h w E l E1 K s df next) : next (a.put d x) w1 := by
  rw [putK_eq] at hr
  obtain ⟨e1, e2⟩ := put_env hd (st.env.mono hs.ext) hx
  exact hn ρ1 _ w1 _ _ h1 hs ⟨e1, m1, by rw [put_defers]; exact st.df.mono hs.ext⟩ e2 hr (hf.right hs)
theorem kop_ok {o : Oper} {E E1 : CE} {k : OpK} {dd : Dst} {ρ : Rho} {l : List AV} {tm : Q AV} {h : AH} {df : List ADefer} {a : Act} {w : World} {K : K} {s : St} {next : Act → World → Prop} {Qx : Exit → Act → World → Prop} (hc : CallOk P X call) (ho : KOk P X o E k) (hP : E.P = P)
    (hd : E.dst o.dst = .ok (dd, E1)) (st : StOk P ρ E ⟨l, tm, h, df⟩ a w) (hr : opK call dd k K l tm h df = .norm s) (hK : ∀ l tm h df, K l tm h df = .norm s → num h.nx ≤ num s.hp.nx) (hf : Free ρ h s.hp)
    (hn : Next P ρ h w E l E1 K s df next) : o.wp P a w next Qx := by
  have hop : OpdsOk ρ E l tm a.eval o := fun x _ => opd_ok hP st.mem st.env x
  cases k with
  | pur f =>
    rw [opK_pur] at hr
    obtain ⟨v, h1, h2⟩ := rec_norm hr
    obtain ⟨x, g1, g2⟩ := ho ρ l tm a.eval w v hop h1
    show Oper.upon P o a next Qx _
    rw [g2, Oper.upon_value]
    exact next_put hd st (Step.refl ρ h w) st.mem g1 h2 hf hn
  | rd f =>
    rw [opK_rd] at hr
    obtain ⟨v, h1, h2⟩ := rec_norm hr
    obtain ⟨x, g1, g2⟩ := ho ρ l tm h a.eval w v st.mem hop h1
    show Oper.upon P o a next Qx _
    rw [g2, Oper.upon_value]
    exact next_put hd st (Step.refl ρ h w) st.mem g1 h2 hf hn
  | alc f =>
    rw [opK_alc] at hr
    obtain ⟨⟨v, ob⟩, h1, h2⟩ := rec_norm hr
    have hlt : num (h.alloc ob).nx ≤ num s.hp.nx := by
      have h3 := h2
      rw [putK_eq] at h3
      exact hK _ _ _ _ h3
    rw [nx_alloc] at hlt
    have hfn : ρ h.nx = none := hf h.nx (Nat.le_refl _) (by omega)
    obtain ⟨x, O, cap, g1, g2, g3, g4⟩ := ho ρ l tm h.nx a.eval w v ob hop hfn h1
    obtain ⟨m1, s1⟩ := st.mem.alloc hfn cap O g4
    show Oper.upon P o a next Qx _
    rw [g1, Oper.upon_value]
    exact next_put hd st s1 m1 g3 h2 hf hn
  | mem f =>
    rw [opK_mem] at hr
    obtain ⟨⟨v, h'⟩, h1, h2⟩ := rec_norm hr
    have hlt : num h'.nx ≤ num s.hp.nx := by
      have h3 := h2
      rw [putK_eq] at h3
      exact hK _ _ _ _ h3
    exact ho call hc ρ l tm h w a v h' st.mem (hf.left hlt) hop h1 next Qx fun ρ' w' x hs m' hx => next_put hd st hs m' hx h2 hf hn
theorem oper_compiled {E E1 : CE} {ops : Array Oper} {o : Oper} {ao : AOper} (hP : E.P = P) (h : E.oper ops o = .ok (ao, E1)) :
    (∃ f l c x, o.op = .defer c ∧ c.callee = .value x ∧ o.guard = none ∧ o.dst = none ∧ E.opd x = .ok f ∧ E.opdL c.args.toList = .ok l ∧ ao = .dfr f l ∧ E1 = E) ∨
    (∃ k dd, KOk P X o E k ∧ E.op o.op = .ok k ∧ E.dst o.dst = .ok (dd, E1) ∧ ((o.guard = none ∧ ao = .op dd k) ∨ (∃ j want t g, o.guard = some (j, want) ∧ ((ops[j]?).bind (·.dst)) = some t ∧ E.opd (.tmp t) = .ok g ∧ ao = .grd g want dd k))) := by
  obtain ⟨dst, op, ty, pos, after, guard⟩ := o
  have key : ∀ k, E.op op = .ok k → KOk P X ⟨dst, op, ty, pos, after, guard⟩ E k := fun k hk => op_ok hP hk
  unfold CE.oper at h
  split at h
  · rename_i c hc
    simp only at hc
    split at h
    · rename_i x hx hg hd
      obtain ⟨f, hf, h0⟩ := bind_eq.1 h
      obtain ⟨l, hl, h1⟩ := bind_eq.1 h0
      cases h1
      simp only at hg hd
      exact .inl ⟨f, l, c, x, hc, hx, hg, hd, hf, hl, rfl, rfl⟩
    · cases h
  · obtain ⟨k, hk, h1⟩ := bind_eq.1 h
    obtain ⟨⟨dd, E2⟩, hd, h2⟩ := bind_eq.1 h1
    split at h2
    · rename_i hg
      cases h2
      exact .inr ⟨k, dd, key k hk, hk, hd, .inl ⟨hg, rfl⟩⟩
    · rename_i j want hg
      obtain ⟨t, ht, h3⟩ := bind_eq.1 h2
      obtain ⟨g, hgo, h4⟩ := bind_eq.1 h3
      cases h4
      exact .inr ⟨k, dd, key k hk, hk, hd, .inr ⟨j, want, t, g, hg, ofOpt_eq.1 ht, hgo, rfl⟩⟩
theorem oper_mono (hm : MonoCall call) {E E1 : CE} {ops : Array Oper} {o : Oper} {ao : AOper} (h : E.oper ops o = .ok (ao, E1)) : ao.Mono call := by
  rcases oper_compiled (X := fun _ => none) (P := E.P) rfl h with ⟨f, l, c, x, _, _, _, _, _, _, rfl, _⟩ | ⟨k, dd, _, hk, _, ⟨_, rfl⟩ | ⟨j, want, t, g, _, _, _, rfl⟩⟩
  · trivial
  · exact op_mono hm hk
  · exact op_mono hm hk
theorem wanted_of {ρ : Rho} {E : CE} {l : List AV} {tm : Q AV} {a : Act} {h : AH} {w : World} {ops : Array Oper} {o : Oper} {j : Nat} {want : Bool} {t : Nat} {g : Opd} {v : AV} (hP : E.P = P) (m : Mem P ρ h w) (he : EnvOk ρ E l tm a.tmps) (hg : o.guard = some (j, want)) (ht : ((ops[j]?).bind (·.dst)) = some t)
    (hgo : E.opd (.tmp t) = .ok g) (hv : g l tm = .ok v) : Region.wanted o (yielded ops a.tmps) = wantB want v := by
  have hx := opd_ok hP m he (.tmp t) g v hgo hv
  have hin : ∃ y, a.tmps[t]? = some y ∧ den ρ v = some y := by
    have hf : bsel (E.mask.testBit t) (.ok (T (pathOf t))) ((idxOf t E.ns 0).bind fun k => .ok (L k)) = .ok g := hgo
    rw [bsel_eq] at hf
    split at hf
    · rename_i hm
      cases hf
      exact he.slot t v hm (Q.at_eq.1 hv)
    · obtain ⟨k, h1, h2⟩ := bind_eq.1 hf
      cases h2
      obtain ⟨j, rfl, h3⟩ := idxOf_ok h1
      have hv := ofOpt_eq.1 hv
      rw [nth_eq, Nat.zero_add] at hv
      exact (he.near j t v h3 hv).2
  obtain ⟨y, h1, h2⟩ := hin
  have e1 : yielded ops a.tmps j = match y with
    | .bool b => some b
    | _ => none := by
    unfold yielded
    rw [ht]
    simp only [Option.bind_some, h1]
    cases y <;> rfl
  simp only [Region.wanted, hg, e1]
  cases v with
  | bool b =>
    rw [den_bool] at h2
    cases h2
    show (some b == some want) = bEq b want
    rw [bEq_eq]; rfl
  | _ =>
    cases y with
    | bool b => exact absurd (den_bool_eq h2) (by simp)
    | _ => rfl
theorem oper_ok {o : Oper} {E E1 : CE} {ops : Array Oper} {ao : AOper} {ρ : Rho} {l : List AV} {tm : Q AV} {h : AH} {df : List ADefer} {a : Act} {w : World} {K : K} {s : St} {next : Act → World → Prop} {Qx : Exit → Act → World → Prop} {i : Nat} (hc : CallOk P X call) (hP : E.P = P) (hi : ops[i]? = some o)
    (hco : E.oper ops o = .ok (ao, E1)) (st : StOk P ρ E ⟨l, tm, h, df⟩ a w) (hr : operK call ao K l tm h df = .norm s) (hK : ∀ l tm h df, K l tm h df = .norm s → num h.nx ≤ num s.hp.nx) (hf : Free ρ h s.hp)
    (hn : ∀ df1, Next P ρ h w E l E1 K s df1 next) : wpOp P ops Qx i next a w := by
  unfold wpOp
  rw [hi]
  simp only
  rcases oper_compiled (X := X) hP hco with ⟨f, q, c, x, hop, hcal, hg, hdst, hf0, hq, rfl, rfl⟩ | ⟨k, dd, hk, _, hd, ⟨hg, rfl⟩ | ⟨j, want, t, g, hg, ht, hgo, rfl⟩⟩
  · have hw : Region.wanted o (yielded ops a.tmps) = true := by simp [Region.wanted, hg]
    rw [if_pos hw]
    refine .inl ?_
    obtain ⟨d, h1, h2⟩ := rec_norm hr
    obtain ⟨fv, h3, h4⟩ := bind_eq.1 h1
    obtain ⟨fid, first, cap, rfl, h5⟩ := onFunc_eq.1 h4
    obtain ⟨vs, h6, h7⟩ := bind_eq.1 h5
    cases h7
    have a1 := opdL_ok (ρ := ρ) (ev := a.eval) hq h6 (fun z _ => opd_ok hP st.mem st.env z)
    have a2 := opd_ok hP st.mem st.env x f _ hf0 h3
    obtain ⟨p1, p2, b1, b2, b3⟩ := den_func_eq a2
    have hrun : (execOp a.eval o).run P w = .ok (.defer ⟨.fn (.func fid) p2.toArray, p1.toArray ++ (c.args.toList.map a.eval).toArray⟩) w := by
      simp only [execOp, hop, resolve, hcal, b3, Deferred.ofValue, Sem.run_bind, Sem.run_pure, Result.andThen_ok]
      congr 3
      apply Array.ext'
      simp
    show Oper.upon P o a next Qx _
    rw [hrun, Oper.upon_defer, hdst]
    exact hn (⟨fid, app (app first vs) cap⟩ :: df) ρ _ w l tm h (Step.refl ρ h w) ⟨st.env, st.mem, (show DfOk ρ (⟨fid, app (app first vs) cap⟩ :: df) (⟨.fn (.func fid) p2.toArray, p1.toArray ++ (c.args.toList.map a.eval).toArray⟩ :: a.defers) from ⟨⟨p2.toArray, rfl, by
      rw [app_eq, app_eq]
      have := denL_app (denL_app b1 a1) b2
      simpa using this⟩, st.df⟩)⟩ (Grows.refl _ _) h2 hf
  · have hw : Region.wanted o (yielded ops a.tmps) = true := by simp [Region.wanted, hg]
    rw [if_pos hw]
    exact .inl (kop_ok hc hk hP hd st hr hK hf (hn df))
  · obtain ⟨v, h1, h2⟩ := rec_norm hr
    rw [wanted_of hP st.mem st.env hg ht hgo h1]
    rw [bsel_eq] at h2
    split at h2
    · rename_i hw
      rw [if_pos hw]
      exact .inl (kop_ok hc hk hP hd st h2 hK hf (hn df))
    · rename_i hw
      rw [if_neg hw]
      exact next_put hd st (Step.refl ρ h w) st.mem (den_undef ρ) h2 hf (hn df)
theorem opers_cons (E : CE) (ops : Array Oper) (o : Oper) (l : List Oper) : E.opers ops (o :: l) = (E.oper ops o).bind fun r => (CE.opers ops l r.2).bind fun q => .ok (r.1 :: q.1, q.2) := rfl
theorem opers_mono (hm : MonoCall call) {ops : Array Oper} : ∀ {l : List Oper} {E E' : CE} {as : List AOper}, E.opers ops l = .ok (as, E') → ∀ o ∈ as, o.Mono call
  | [], E, E', as, h => by
    have h : R.ok (([] : List AOper), E) = .ok (as, E') := h
    cases h
    intro o ho; cases ho
  | x :: l, E, E', as, h => by
    rw [opers_cons] at h
    obtain ⟨⟨ao, E1⟩, h1, h2⟩ := bind_eq.1 h
    obtain ⟨⟨as', E2⟩, h3, h4⟩ := bind_eq.1 h2
    cases h4
    intro o ho
    rcases List.mem_cons.1 ho with rfl | ho
    · exact oper_mono hm h1
    · exact opers_mono hm h3 o ho
theorem oper_prog {E E1 : CE} {ops : Array Oper} {o : Oper} {ao : AOper} (h : E.oper ops o = .ok (ao, E1)) : E1.P = E.P := by
  rcases oper_compiled (X := fun _ => none) (P := E.P) rfl h with ⟨f, l, c, _x0, _, _, _, _, _hf0, _, _, rfl⟩ | ⟨k, dd, _, hk, hd, _⟩
  · rfl
  · generalize o.dst = d at hd
    cases d with
    | none => cases hd; rfl
    | some t =>
      obtain ⟨h1, h2⟩ := tst_eq.1 hd
      rw [bsel_eq] at h2
      split at h2
      · cases h2; rfl
      · generalize idxOf t E.ns 0 = r at h2
        cases r with
        | ok k => cases h2
        | err _ =>
          have h2 : R.ok (Dst.loc, (⟨E.P, E.nt, E.mask, t :: E.ns⟩ : CE)) = .ok (dd, E1) := h2
          cases h2; rfl
theorem opers_ok (hc : CallOk P X call) {ops : Array Oper} {Qx : Exit → Act → World → Prop} : ∀ (os : List Oper) (i : Nat) (E E' : CE) (as : List AOper), (∀ j o, os[j]? = some o → ops[i + j]? = some o) → E.opers ops os = .ok (as, E') → E.P = P →
    ∀ ρ l tm h df a w s, StOk P ρ E ⟨l, tm, h, df⟩ a w → opsK call as l tm h df = .norm s → Free ρ h s.hp →
      (∀ ρ' a' w', Step ρ h w ρ' s.hp w' → StOk P ρ' E' s a' w' → Grows E l E' s.l → Qx .normal a' w') → wpOps P ops Qx (List.range' i os.length) a w
  | [], i, E, E', as, _, hco, hP, ρ, l, tm, h, df, a, w, s, st, hr, hf, hq => by
    have hco : R.ok (([] : List AOper), E) = .ok (as, E') := hco
    cases hco
    have hr : CR.norm ⟨l, tm, h, df⟩ = .norm s := hr
    cases hr
    exact hq ρ a w (Step.refl _ _ _) st (Grows.refl _ _)
  | o :: os, i, E, E', as, hin, hco, hP, ρ, l, tm, h, df, a, w, s, st, hr, hf, hq => by
    rw [opers_cons] at hco
    obtain ⟨⟨ao, E1⟩, h1, h2⟩ := bind_eq.1 hco
    obtain ⟨⟨as', E2⟩, h3, h4⟩ := bind_eq.1 h2
    cases h4
    rw [opsK_cons] at hr
    show wpOps P ops Qx (i :: List.range' (i + 1) os.length) a w
    rw [wpOps_cons]
    refine oper_ok hc hP (by have := hin 0 o rfl; simpa using this) h1 st hr (fun l tm h df hk => opsK_mono (opers_mono hc.mono h3) hk) hf fun df1 ρ1 a1 w1 l1 tm1 hh1 hs st1 hg hk hf1 => ?_
    exact opers_ok hc os (i + 1) E1 _ as' (fun j o' hj => by have := hin (j + 1) o' (by simpa using hj); rw [Nat.add_assoc, Nat.add_comm 1 j]; exact this) h3 ((oper_prog h1).trans hP) ρ1 l1 tm1 hh1 df1 a1 w1 s st1 hk hf1
      fun ρ' a' w' hs' st' hg' => hq ρ' a' w' (hs.trans hs') st' (hg.trans hg')
end
end Go.AX
/- The abstract executor: code. -/
namespace Go.AX

def CR.outs (r : CR) (p : St → Prop) : Prop := match r with
  | .norm s => p s
  | .exit _ s => p s
  | .ret s => p s
  | .err _ => True
theorem then_eq (r : CR) (k : St → CR) : r.then k = match r with
  | .norm s => k s
  | .exit i s => .exit i s
  | .ret s => .ret s
  | .err l => .err l := by cases r <;> rfl
theorem near_eq (l : List AV) (r : CR) : r.near l = match r with
  | .norm s => .norm ⟨l, s.tm, s.hp, s.df⟩
  | .exit i s => .exit i s
  | .ret s => .ret s
  | .err l => .err l := by cases r <;> rfl
theorem inBlock_eq (id : Nat) (r : CR) : r.inBlock id = match r with
  | .norm s => .norm s
  | .exit i s => if i = id then .norm s else .exit i s
  | .ret s => .ret s
  | .err l => .err l := by
  cases r with
  | exit i s =>
    show bsel (Nat.beq i id) (CR.norm s) (CR.exit i s) = _
    rw [bsel_eq]
    simp
  | _ => rfl
theorem opD_mono {call : CallH} {d : Dst} {k : OpK} {b : Nat} {f : List Nat} {s s' : DSt} (ho : OpMono call k) (h : opD call d k b f s = .ok s') : num s.hp.nx ≤ num s'.hp.nx := by
  have hp : ∀ (t : DSt) (v : AV), (t.put d v).hp = t.hp := fun t v => by cases d <;> rfl
  cases k with
  | pur g =>
    obtain ⟨v, _, h1⟩ := bind_eq.1 h
    cases h1; rw [hp]; exact Nat.le_refl _
  | rd g =>
    obtain ⟨_, _, h1⟩ := bind_eq.1 h
    obtain ⟨_, _, h2⟩ := bind_eq.1 h1
    cases h2; rw [hp]; exact Nat.le_refl _
  | alc g =>
    obtain ⟨_, _, h1⟩ := bind_eq.1 h
    cases h1; rw [hp]
    show _ ≤ num (s.hp.alloc _).nx
    rw [nx_alloc]; omega
  | mem g =>
    obtain ⟨r, h0, h1⟩ := bind_eq.1 h
    cases h1; rw [hp]
    exact ho _ _ _ _ _ h0
theorem operD_mono {call : CallH} {o : DOper} {s s' : DSt} (ho : o.o.Mono call) (h : operD call o s = .ok s') : num s.hp.nx ≤ num s'.hp.nx := by
  obtain ⟨ao, b, f⟩ := o
  cases ao with
  | op d k => exact opD_mono ho h
  | grd g want d k =>
    obtain ⟨v, _, h1⟩ := bind_eq.1 h
    rw [bsel_eq] at h1
    split at h1
    · exact opD_mono ho h1
    · have hp : ∀ (t : DSt) (v : AV), (t.put d v).hp = t.hp := fun t v => by cases d <;> rfl
      cases k <;> (cases h1; rw [hp]; exact Nat.le_refl _)
  | dfr f args => cases h
theorem opsD_mono {call : CallH} : ∀ {os : List DOper} {s s' : DSt}, (∀ o ∈ os, o.o.Mono call) → opsD call os s = .ok s' → num s.hp.nx ≤ num s'.hp.nx
  | [], s, s', _, h => by
    have h : R.ok s = .ok s' := h
    cases h; exact Nat.le_refl _
  | o :: os, s, s', ho, h => by
    have h : ((operD call o s).bind (opsD call os)) = .ok s' := h
    obtain ⟨s1, h1, h2⟩ := bind_eq.1 h
    exact Nat.le_trans (operD_mono (ho o (by simp)) h1) (opsD_mono (fun x hx => ho x (by simp [hx])) h2)
theorem opsK_form {call : CallH} : ∀ {as : List AOper} {l : List AV} {tm : Q AV} {h : AH} {df : List ADefer}, (∃ s, opsK call as l tm h df = .norm s) ∨ ∃ e, opsK call as l tm h df = .err e
  | [], l, tm, h, df => .inl ⟨_, rfl⟩
  | o :: as, l, tm, h, df => by
    rw [opsK_cons]
    have rec' : ∀ {α : Type} (x : R α) (f : α → CR), (∀ a, (∃ s, f a = .norm s) ∨ ∃ e, f a = .err e) → (∃ s, R.rec (motive := fun _ => CR) f CR.err x = .norm s) ∨ ∃ e, R.rec (motive := fun _ => CR) f CR.err x = .err e := by
      intro α x f hf
      cases x with
      | ok a => exact hf a
      | err l => exact .inr ⟨l, rfl⟩
    have hk : ∀ (d : Dst) (k : OpK) l tm h df, (∃ s, opK call d k (opsK call as) l tm h df = .norm s) ∨ ∃ e, opK call d k (opsK call as) l tm h df = .err e := by
      intro d k l tm h df
      cases k with
      | pur f => rw [opK_pur]; exact rec' _ _ fun v => by rw [putK_eq]; exact opsK_form
      | rd f => rw [opK_rd]; exact rec' _ _ fun v => by rw [putK_eq]; exact opsK_form
      | alc f => rw [opK_alc]; exact rec' _ _ fun v => by rw [putK_eq]; exact opsK_form
      | mem f => rw [opK_mem]; exact rec' _ _ fun v => by rw [putK_eq]; exact opsK_form
    cases o with
    | op d k => exact hk d k l tm h df
    | grd g want d k =>
      refine rec' _ _ fun v => ?_
      rw [bsel_eq]
      split
      · exact hk d k l tm h df
      · rw [putK_eq]; exact opsK_form
    | dfr f args => exact rec' _ _ fun v => opsK_form
theorem loopN_succ (n : Nat) (b : St → CR) (s : St) : loopN (n + 1) b s = ((b s).near s.l).then (loopN n b) := rfl
theorem loopN_mono {b : St → CR} (hb : ∀ s, (b s).outs fun s' => num s.hp.nx ≤ num s'.hp.nx) : ∀ (n : Nat) (s : St), (loopN n b s).outs fun s' => num s.hp.nx ≤ num s'.hp.nx
  | 0, s => trivial
  | n + 1, s => by
    rw [loopN_succ, then_eq, near_eq]
    have h1 := hb s
    cases hr : b s with
    | norm s1 =>
      rw [hr] at h1
      have h2 := loopN_mono hb n ⟨s.l, s1.tm, s1.hp, s1.df⟩
      show CR.outs (loopN n b ⟨s.l, s1.tm, s1.hp, s1.df⟩) _
      cases hr2 : loopN n b ⟨s.l, s1.tm, s1.hp, s1.df⟩ with
      | err l => trivial
      | _ => rw [hr2] at h2; exact Nat.le_trans h1 h2
    | exit i s1 => rw [hr] at h1; exact h1
    | ret s1 => rw [hr] at h1; exact h1
    | err l => trivial
theorem runA_both (call : CallH) (W : List Id) (sa si : Id) (es fo : Nat) (x y : ACode) (s : St) : runA call (.both W sa si es fo x y) s = bothK W sa si es fo (runA call x) (runA call y) s := rfl
theorem both_form (W : List Id) (sa si : Id) (es fo : Nat) (fx fy : St → CR) (s : St) : (∃ T sx sy, touchT sa si es fo s = .ok T ∧ fx ⟨s.l, s.tm, ⟨restrict T s.hp.tr, s.hp.nx⟩, s.df⟩ = .norm sx ∧ fy ⟨s.l, s.tm, ⟨restrict T s.hp.tr, s.hp.nx⟩, s.df⟩ = .norm sy ∧ sx.hp.nx = sy.hp.nx ∧
    bothK W sa si es fo fx fy s = .norm ⟨s.l, dropS W s.tm, ⟨mergeT (T ++ idsTo 16 sx.hp.nx s.hp.nx) sx.hp.tr sy.hp.tr s.hp.tr, sx.hp.nx⟩, s.df⟩) ∨ ∃ l, bothK W sa si es fo fx fy s = .err l := by
  unfold bothK
  cases hT : touchT sa si es fo s with
  | err l => exact .inr ⟨l, rfl⟩
  | ok T =>
    simp only
    cases hx : fx ⟨s.l, s.tm, ⟨restrict T s.hp.tr, s.hp.nx⟩, s.df⟩ with
    | norm sx =>
      cases hy : fy ⟨s.l, s.tm, ⟨restrict T s.hp.tr, s.hp.nx⟩, s.df⟩ with
      | norm sy =>
        simp only
        unfold mergeK
        rw [bsel_eq, app_eq]
        split
        · rename_i h
          exact .inl ⟨T, sx, sy, rfl, hx, hy, idEq_eq h, rfl⟩
        · exact .inr ⟨_, rfl⟩
      | _ => exact .inr ⟨_, rfl⟩
    | _ => exact .inr ⟨_, rfl⟩
theorem runA_mono {call : CallH} : ∀ (c : ACode), c.Mono call → ∀ s, (runA call c s).outs fun s' => num s.hp.nx ≤ num s'.hp.nx
  | .skip, _, s => Nat.le_refl _
  | .ops as, hm, ⟨l, tm, h, df⟩ => by
    show CR.outs (opsK call as l tm h df) _
    cases hr : opsK call as l tm h df with
    | norm s1 => exact opsK_mono hm hr
    | err l => trivial
    | exit i s1 => rcases opsK_form (call := call) (as := as) (l := l) (tm := tm) (h := h) (df := df) with ⟨_, h1⟩ | ⟨_, h1⟩ <;> (rw [hr] at h1; cases h1)
    | ret s1 => rcases opsK_form (call := call) (as := as) (l := l) (tm := tm) (h := h) (df := df) with ⟨_, h1⟩ | ⟨_, h1⟩ <;> (rw [hr] at h1; cases h1)
  | .draw os, hm, ⟨l, tm, h, df⟩ => by
    show CR.outs (R.rec (motive := fun _ => CR) (fun s => CR.norm ⟨s.l, s.tm, s.hp, df⟩) CR.err (runD call os l tm h)) _
    cases hr : runD call os l tm h with
    | ok s1 =>
      obtain ⟨s2, h1, h2⟩ := bind_eq.1 hr
      obtain ⟨_, _, h3⟩ := bind_eq.1 h2
      cases h3
      exact opsD_mono hm h1
    | err l => trivial
  | .seq x y, hm, s => by
    show CR.outs ((runA call x s).then (runA call y)) _
    rw [then_eq]
    have h1 := runA_mono x hm.1 s
    cases hr : runA call x s with
    | norm s1 =>
      rw [hr] at h1
      have h2 := runA_mono y hm.2 s1
      show CR.outs (runA call y s1) _
      cases hr2 : runA call y s1 with
      | err l => trivial
      | _ => rw [hr2] at h2; exact Nat.le_trans h1 h2
    | exit i s1 => rw [hr] at h1; exact h1
    | ret s1 => rw [hr] at h1; exact h1
    | err l => trivial
  | .cond c x y, hm, s => by
    show CR.outs (R.rec (motive := fun _ => CR) (fun b => (bsel b (runA call x s) (runA call y s)).near s.l) CR.err (condOf (c s.l s.tm))) _
    cases condOf (c s.l s.tm) with
    | err l => trivial
    | ok b =>
      show CR.outs ((bsel b (runA call x s) (runA call y s)).near s.l) _
      have h1 := runA_mono x hm.1 s
      have h2 := runA_mono y hm.2 s
      cases b with
      | true =>
        show CR.outs ((runA call x s).near s.l) _
        rw [near_eq]
        cases hr : runA call x s with
        | err l => trivial
        | _ => rw [hr] at h1; exact h1
      | false =>
        show CR.outs ((runA call y s).near s.l) _
        rw [near_eq]
        cases hr : runA call y s with
        | err l => trivial
        | _ => rw [hr] at h2; exact h2
  | .block id x, hm, s => by
    show CR.outs ((CR.inBlock id (runA call x s)).near s.l) _
    rw [near_eq, inBlock_eq]
    have h1 := runA_mono x hm s
    cases hr : runA call x s with
    | err l => trivial
    | exit i s1 =>
      rw [hr] at h1
      by_cases hi : i = id
      · simp only [if_pos hi]; exact h1
      · simp only [if_neg hi]; exact h1
    | _ => rw [hr] at h1; exact h1
  | .loop x, hm, s => loopN_mono (fun s => runA_mono x hm s) 1000000 s
  | .exit id, _, s => Nat.le_refl _
  | .ret, _, s => Nat.le_refl _
  | .bad l, _, s => trivial
  | .both W sa si es fo x y, hm, s => by
    rw [runA_both]
    rcases both_form W sa si es fo (runA call x) (runA call y) s with ⟨T, sx, sy, h1, h2, h3, h4, h5⟩ | ⟨l, h5⟩
    · rw [h5]
      have := runA_mono x hm.1 ⟨s.l, s.tm, ⟨restrict T s.hp.tr, s.hp.nx⟩, s.df⟩
      rw [h2] at this
      exact this
    · rw [h5]; trivial
theorem drawn_mono {call : CallH} : ∀ (l : List AOper) (bs louds : List Nat) (n i : Nat), (∀ o ∈ l, o.Mono call) → ∀ o ∈ drawOpers bs louds n l i, o.o.Mono call := by
  intro l bs louds n
  induction l with
  | nil => intro i _ o ho; cases ho
  | cons x l ih =>
    intro i hl o ho
    have ho : o ∈ DOper.mk x i (bsel x.reads ((List.range (n + 1)).filter (oksAt bs louds i)) []) :: drawOpers bs louds n l (i + 1) := ho
    rcases List.mem_cons.1 ho with rfl | ho
    · exact hl x (by simp)
    · exact ih (i + 1) (fun y hy => hl y (by simp [hy])) o ho
theorem late_cases {E E' : CE} {ops : Array Oper} {ac : ACode} (h : E.late ops = .ok (ac, E')) : ∃ I as m fa ga fb gb, lateOk E.P (befs ops.toList []) ops.pop.size ops I = true ∧ E.opers ops.pop ops.pop.toList = .ok (as, E') ∧ drawOk ops.pop (befs ops.pop.toList []) (loudsOf as 0) = true ∧ szOf E.P I.tb = .ok m ∧
    E'.opd (.tmp I.xa) = .ok fa ∧ E'.opd (.tmp I.ya) = .ok ga ∧ E'.opd (.tmp I.xb) = .ok fb ∧ E'.opd (.tmp I.yb) = .ok gb ∧ ac = .seq (.draw (drawOpers (befs ops.pop.toList []) (loudsOf as 0) (len as) as 0)) (.ops [.op .no (.rd (chkF fa ga fb gb)), .op .no (.mem (storeF m fb gb))]) := by
  obtain ⟨I, _, h⟩ := bind_eq.1 h
  obtain ⟨h1, h⟩ := tst_eq.1 h
  obtain ⟨⟨as, E1⟩, h2, h⟩ := bind_eq.1 h
  obtain ⟨h3, h⟩ := tst_eq.1 h
  obtain ⟨m, h4, h⟩ := bind_eq.1 h
  obtain ⟨fa, h5, h⟩ := bind_eq.1 h
  obtain ⟨ga, h6, h⟩ := bind_eq.1 h
  obtain ⟨fb, h7, h⟩ := bind_eq.1 h
  obtain ⟨gb, h8, h⟩ := bind_eq.1 h
  cases h
  exact ⟨I, as, m, fa, ga, fb, gb, h1, h2, h3, h4, h5, h6, h7, h8, rfl⟩
theorem region_mono {call : CallH} (hm : MonoCall call) {E E' : CE} {ops : Array Oper} {d : Bool} {ac : ACode} (h : E.region ops d = .ok (ac, E')) : ac.Mono call := by
  obtain ⟨⟨as, E1⟩, h1, h2⟩ := bind_eq.1 h
  have h3 := opers_mono hm h1
  rw [bsel_eq] at h2
  split at h2
  · obtain ⟨_, h4⟩ := tst_eq.1 h2
    rw [bsel_eq] at h4
    split at h4
    · cases h4
      exact drawn_mono _ _ _ _ 0 h3
    · obtain ⟨I, as', m, fa, ga, fb, gb, g1, g2, g3, g4, g5, g6, g7, g8, rfl⟩ := late_cases h4
      refine ⟨drawn_mono _ _ _ _ 0 (opers_mono hm g2), fun o ho => ?_⟩
      rcases List.mem_cons.1 ho with rfl | ho
      · trivial
      · rcases List.mem_cons.1 ho with rfl | ho
        · exact storeF_mono
        · cases ho
  · cases h2; exact h3
theorem both_eq {E E' : CE} {y : Code} {cx cy ac : ACode} (h : E.both y cx cy = .ok (ac, E')) : ∃ (p : Nat × Nat × Nat × Nat) (W W' : List Id), E.P.follows .mixedOrders = true ∧ E.mask.testBit p.1 = true ∧ E.mask.testBit p.2.1 = true ∧ codeW cx = .ok W ∧ codeW cy = .ok W' ∧ ac = .both (W ++ W') (pathOf p.1) (pathOf p.2.1) p.2.2.1 p.2.2.2 cx cy ∧ E' = E := by
  obtain ⟨p, _, h⟩ := bind_eq.1 h
  obtain ⟨h1, h⟩ := tst_eq.1 h
  obtain ⟨W, h2, h⟩ := bind_eq.1 h
  obtain ⟨W', h3, h⟩ := bind_eq.1 h
  cases h
  simp only [band_eq, Bool.and_eq_true] at h1
  exact ⟨p, W, W', h1.1, h1.2.1, h1.2.2, h2, h3, by rw [app_eq], rfl⟩
theorem code_mono {call : CallH} (hm : MonoCall call) : ∀ (c : Code) (E : CE), (CE.code c E).1.Mono call
  | .skip, E => trivial
  | .label _, E => trivial
  | .region id ops d, E => by
    show (orBad E (E.region ops d)).1.Mono call
    cases hr : E.region ops d with
    | ok r => exact region_mono hm hr
    | err l => trivial
  | .seq a b, E => by
    rcases code_seq a b E with he | ⟨id, ops, t, x, y, rfl, rfl, _, he⟩
    · rw [he]; exact ⟨code_mono hm a E, code_mono hm b _⟩
    · rw [he]
      cases hb : E.both y (CE.code x E).1 (CE.code y E).1 with
      | err l => trivial
      | ok r =>
        obtain ⟨ac, E'⟩ := r
        obtain ⟨p, W, W', _, _, _, _, _, rfl, rfl⟩ := both_eq hb
        exact ⟨code_mono hm x _, code_mono hm y _⟩
  | .cond c a b, E => by
    show (orBad E ((E.opd c).bind fun f => .ok (.cond f (CE.code a E).1 (CE.code b E).1, E))).1.Mono call
    cases E.opd c with
    | ok f => exact ⟨code_mono hm a E, code_mono hm b E⟩
    | err l => trivial
  | .block id a, E => code_mono hm a E
  | .loop a, E => code_mono hm a E
  | .exit id, E => trivial
  | .ret, E => trivial
  | .goto _, E => trivial
  | .scope _, E => trivial
  | .rangeFunc _ _ _ _, E => trivial
  | .refuse _, E => trivial
termination_by c => SizeOf.sizeOf c
end Go.AX
/- The abstract executor: code that compiles does as the abstract code does. -/
namespace Go.AX

section
variable {P : Program} {X : Ext} {call : CallH}
def DrawOk (P : Program) (call : CallH) : Prop := ∀ (id : Nat) (ops : Array Oper) (E E' : CE) (ac : ACode), E.region ops true = .ok (ac, E') → E.P = P → ∀ ρ s a w s' (Qx : Exit → Act → World → Prop), StOk P ρ E s a w → runA call ac s = .norm s' → Free ρ s.hp s'.hp →
  (∀ ρ' a' w', Step ρ s.hp w ρ' s'.hp w' → StOk P ρ' E' s' a' w' → Grows E s.l E' s'.l → Qx .normal a' w') → (Code.region id ops true).wp P Qx a w
def Post (P : Program) (E E' : CE) (ρ : Rho) (s : St) (w : World) (Qx : Exit → Act → World → Prop) (r : CR) : Prop := match r with
  | .norm s' => Free ρ s.hp s'.hp ∧ ∀ ρ' a' w', Step ρ s.hp w ρ' s'.hp w' → StOk P ρ' E' s' a' w' → Grows E s.l E' s'.l → Qx .normal a' w'
  | .exit id s' => Free ρ s.hp s'.hp ∧ ∀ ρ' a' w' E1, Step ρ s.hp w ρ' s'.hp w' → StOk P ρ' E1 s' a' w' → Grows E s.l E1 s'.l → Qx (.exit id) a' w'
  | .ret s' => Free ρ s.hp s'.hp ∧ ∀ ρ' a' w' E1, Step ρ s.hp w ρ' s'.hp w' → StOk P ρ' E1 s' a' w' → Grows E s.l E1 s'.l → Qx .ret a' w'
  | .err _ => False
theorem StOk.near {ρ : Rho} {E E1 : CE} {s : St} {l : List AV} {a : Act} {w : World} (st : StOk P ρ E1 s a w) (hg : Grows E l E1 s.l) : StOk P ρ E ⟨l, s.tm, s.hp, s.df⟩ a w := ⟨hg.back st.env, st.mem, st.df⟩
theorem code_grows : ∀ (c : Code) (E : CE), (CE.code c E).2.P = E.P := by
  intro c
  induction c with
  | seq a b ha hb =>
    intro E
    rcases code_seq a b E with he | ⟨id, ops, t, x, y, rfl, rfl, _, he⟩
    · rw [he]; exact (hb _).trans (ha E)
    · rw [he]
      cases hq : E.both y (CE.code x E).1 (CE.code y E).1 with
      | err l => rfl
      | ok r =>
        obtain ⟨ac, E'⟩ := r
        obtain ⟨p, W, W', _, _, _, _, _, rfl, rfl⟩ := both_eq hq
        rfl
  | region id ops d =>
    intro E
    show (orBad E (E.region ops d)).2.P = E.P
    cases hr : E.region ops d with
    | err l => rfl
    | ok r =>
      obtain ⟨ac, E'⟩ := r
      obtain ⟨⟨as, E1⟩, h1, h2⟩ := bind_eq.1 hr
      have gen : ∀ (ops : Array Oper) (l : List Oper) (E E' : CE) (as : List AOper), E.opers ops l = .ok (as, E') → E'.P = E.P := by
        intro ops l
        induction l with
        | nil => intro E E' as h; have h : R.ok (([] : List AOper), E) = .ok (as, E') := h; cases h; rfl
        | cons o l ih =>
          intro E E' as h
          rw [opers_cons] at h
          obtain ⟨⟨ao, E2⟩, g1, g2⟩ := bind_eq.1 h
          obtain ⟨⟨as', E3⟩, g3, g4⟩ := bind_eq.1 g2
          cases g4
          exact (ih _ _ _ g3).trans (oper_prog g1)
      have h3 := gen _ _ _ _ _ h1
      rw [bsel_eq] at h2
      split at h2
      · obtain ⟨_, h4⟩ := tst_eq.1 h2
        rw [bsel_eq] at h4
        split at h4
        · cases h4; exact h3
        · obtain ⟨I, as', m, fa, ga, fb, gb, g1, g2, g3, g4, g5, g6, g7, g8, rfl⟩ := late_cases h4
          exact gen _ _ _ _ _ g2
      · cases h2; exact h3
  | cond c a b ha hb =>
    intro E
    show (orBad E ((E.opd c).bind fun f => .ok (.cond f (CE.code a E).1 (CE.code b E).1, E))).2.P = E.P
    cases E.opd c <;> rfl
  | _ => intro E; rfl
theorem drawK_form {l : List DOper} {s : St} : (∃ s', runA call (.draw l) s = .norm s') ∨ ∃ e, runA call (.draw l) s = .err e := by
  show (∃ s', R.rec (motive := fun _ => CR) (fun t : DSt => CR.norm ⟨t.l, t.tm, t.hp, s.df⟩) CR.err (runD call l s.l s.tm s.hp) = .norm s') ∨ ∃ e, R.rec (motive := fun _ => CR) (fun t : DSt => CR.norm ⟨t.l, t.tm, t.hp, s.df⟩) CR.err (runD call l s.l s.tm s.hp) = .err e
  cases runD call l s.l s.tm s.hp with
  | ok t => exact .inl ⟨_, rfl⟩
  | err e => exact .inr ⟨_, rfl⟩
theorem region_form {E E' : CE} {ops : Array Oper} {ac : ACode} {s : St} (h : E.region ops true = .ok (ac, E')) : (∃ s', runA call ac s = .norm s') ∨ ∃ e, runA call ac s = .err e := by
  obtain ⟨⟨as, E1⟩, h1, h2⟩ := bind_eq.1 h
  rw [bsel_eq, if_pos rfl] at h2
  obtain ⟨_, h4⟩ := tst_eq.1 h2
  rw [bsel_eq] at h4
  split at h4
  · cases h4
    exact drawK_form
  · obtain ⟨I, as', m, fa, ga, fb, gb, g1, g2, g3, g4, g5, g6, g7, g8, rfl⟩ := late_cases h4
    have e : ∀ x y : ACode, runA call (.seq x y) s = (runA call x s).then (runA call y) := fun _ _ => rfl
    rw [e]
    rcases drawK_form (call := call) (l := drawOpers (befs ops.pop.toList []) (loudsOf as' 0) (len as') as' 0) (s := s) with ⟨s', h9⟩ | ⟨e, h9⟩
    · rw [h9]
      have := opsK_form (call := call) (as := [.op .no (.rd (chkF fa ga fb gb)), .op .no (.mem (storeF m fb gb))]) (l := s'.l) (tm := s'.tm) (h := s'.hp) (df := s'.df)
      exact this
    · rw [h9]
      exact .inr ⟨e, rfl⟩
def CoinOk (P : Program) (call : CallH) : Prop := ∀ (id : Nat) (ops : Array Oper) (t : Tmp) (x y : Code) (E E' : CE) (ac : ACode), coinOk E ops t = true → E.both y (CE.code x E).1 (CE.code y E).1 = .ok (ac, E') → E.P = P →
  (∀ ρ s a w (Qx : Exit → Act → World → Prop), StOk P ρ E s a w → Post P E (CE.code x E).2 ρ s w Qx (runA call (CE.code x E).1 s) → x.wp P Qx a w) → (∀ ρ s a w (Qx : Exit → Act → World → Prop), StOk P ρ E s a w → Post P E (CE.code y E).2 ρ s w Qx (runA call (CE.code y E).1 s) → y.wp P Qx a w) →
  ∀ ρ s a w (Qx : Exit → Act → World → Prop), StOk P ρ E s a w → Post P E E' ρ s w Qx (runA call ac s) → (Code.seq (.region id ops true) (.cond (.tmp t) x y)).wp P Qx a w
theorem code_ok (hc : CallOk P X call) (hdr : DrawOk P call) (hco : CoinOk P call) : ∀ (c : Code) (E : CE), E.P = P → ∀ ρ s a w Qx, StOk P ρ E s a w → Post P E (CE.code c E).2 ρ s w Qx (runA call (CE.code c E).1 s) → c.wp P Qx a w
  | .skip, E, hP, ρ, s, a, w, Qx, st, hp => wp_skip (hp.2 ρ a w (Step.refl _ _ _) st (Grows.refl _ _))
  | .label _, E, hP, ρ, s, a, w, Qx, st, hp => wp_label (hp.2 ρ a w (Step.refl _ _ _) st (Grows.refl _ _))
  | .region id ops d, E, hP, ρ, s, a, w, Qx, st, hp => by
    have hp : Post P E (orBad E (E.region ops d)).2 ρ s w Qx (runA call (orBad E (E.region ops d)).1 s) := hp
    cases hr : E.region ops d with
    | err l => rw [hr] at hp; exact hp.elim
    | ok r =>
      obtain ⟨ac, E'⟩ := r
      rw [hr] at hp
      have hp' : Post P E E' ρ s w Qx (runA call ac s) := hp
      clear hp
      cases d with
      | true =>
        rcases region_form (call := call) (s := s) hr with ⟨s', hrun⟩ | ⟨l, hrun⟩
        · rw [hrun] at hp'
          exact hdr id ops E _ _ hr hP ρ s a w s' Qx st hrun hp'.1 hp'.2
        · rw [hrun] at hp'; exact hp'.elim
      | false =>
        obtain ⟨⟨as, E1⟩, h1, h2⟩ := bind_eq.1 hr
        rw [bsel_eq, if_neg (by simp)] at h2
        cases h2
        have hp : Post P E E1 ρ s w Qx (opsK call as s.l s.tm s.hp s.df) := hp'
        rcases opsK_form (call := call) (as := as) (l := s.l) (tm := s.tm) (h := s.hp) (df := s.df) with ⟨s', h3⟩ | ⟨l, h3⟩
        · rw [h3] at hp
          refine wp_region ?_
          rw [List.range_eq_range']
          have := opers_ok (Qx := Qx) hc ops.toList 0 E _ as (fun j o hj => by rw [Nat.zero_add, ← Array.getElem?_toList]; exact hj) h1 hP ρ s.l s.tm s.hp s.df a w s' st h3 hp.1 hp.2
          rw [Array.length_toList] at this
          exact this
        · rw [h3] at hp; exact hp.elim
  | .seq x y, E, hP, ρ, s, a, w, Qx, st, hp => by
    rcases code_seq x y E with he | ⟨id, ops, t, x', y', rfl, rfl, hco1, he⟩
    rotate_left
    · rw [he] at hp
      cases hb : E.both y' (CE.code x' E).1 (CE.code y' E).1 with
      | err l => rw [hb] at hp; exact hp.elim
      | ok r =>
        obtain ⟨ac, E'⟩ := r
        rw [hb] at hp
        exact hco id ops t x' y' E E' ac hco1 hb hP (fun ρ s a w Q st hp => code_ok hc hdr hco x' E hP ρ s a w Q st hp) (fun ρ s a w Q st hp => code_ok hc hdr hco y' E hP ρ s a w Q st hp) ρ s a w Qx st hp
    rw [he] at hp
    have hp : Post P E (CE.code y (CE.code x E).2).2 ρ s w Qx ((runA call (CE.code x E).1 s).then (runA call (CE.code y (CE.code x E).2).1)) := hp
    rw [then_eq] at hp
    refine wp_seq (code_ok hc hdr hco x E hP ρ s a w _ st ?_)
    have hP2 : (CE.code x E).2.P = P := (code_grows x E).trans hP
    cases hr : runA call (CE.code x E).1 s with
    | norm s1 =>
      rw [hr] at hp
      simp only at hp
      have hmono := runA_mono (CE.code y (CE.code x E).2).1 (code_mono hc.mono y _) s1
      have fin : ∀ s2 : St, num s1.hp.nx ≤ num s2.hp.nx → Free ρ s.hp s2.hp → Free ρ s.hp s1.hp := fun s2 h1 h2 => h2.left h1
      cases hr2 : runA call (CE.code y (CE.code x E).2).1 s1 with
      | err l => rw [hr2] at hp; exact hp.elim
      | norm s2 =>
        rw [hr2] at hp hmono
        refine ⟨fin s2 hmono hp.1, fun ρ1 a1 w1 hs1 st1 hg1 => ?_⟩
        refine code_ok hc hdr hco y _ hP2 ρ1 s1 a1 w1 Qx st1 ?_
        rw [hr2]
        exact ⟨hp.1.right hs1, fun ρ2 a2 w2 hs2 st2 hg2 => hp.2 ρ2 a2 w2 (hs1.trans hs2) st2 (hg1.trans hg2)⟩
      | exit i s2 =>
        rw [hr2] at hp hmono
        refine ⟨fin s2 hmono hp.1, fun ρ1 a1 w1 hs1 st1 hg1 => ?_⟩
        refine code_ok hc hdr hco y _ hP2 ρ1 s1 a1 w1 Qx st1 ?_
        rw [hr2]
        exact ⟨hp.1.right hs1, fun ρ2 a2 w2 E2 hs2 st2 hg2 => hp.2 ρ2 a2 w2 E2 (hs1.trans hs2) st2 (hg1.trans hg2)⟩
      | ret s2 =>
        rw [hr2] at hp hmono
        refine ⟨fin s2 hmono hp.1, fun ρ1 a1 w1 hs1 st1 hg1 => ?_⟩
        refine code_ok hc hdr hco y _ hP2 ρ1 s1 a1 w1 Qx st1 ?_
        rw [hr2]
        exact ⟨hp.1.right hs1, fun ρ2 a2 w2 E2 hs2 st2 hg2 => hp.2 ρ2 a2 w2 E2 (hs1.trans hs2) st2 (hg1.trans hg2)⟩
    | exit i s1 => rw [hr] at hp; exact hp
    | ret s1 => rw [hr] at hp; exact hp
    | err l => rw [hr] at hp; exact hp
  | .cond c x y, E, hP, ρ, s, a, w, Qx, st, hp => by
    have hp : Post P E (orBad E ((E.opd c).bind fun f => .ok (.cond f (CE.code x E).1 (CE.code y E).1, E))).2 ρ s w Qx (runA call (orBad E ((E.opd c).bind fun f => .ok (.cond f (CE.code x E).1 (CE.code y E).1, E))).1 s) := hp
    cases hf : E.opd c with
    | err l => rw [hf] at hp; exact hp.elim
    | ok f =>
      rw [hf] at hp
      have hp : Post P E E ρ s w Qx (R.rec (motive := fun _ => CR) (fun b => (bsel b (runA call (CE.code x E).1 s) (runA call (CE.code y E).1 s)).near s.l) CR.err (condOf (f s.l s.tm))) := hp
      cases hb : condOf (f s.l s.tm) with
      | err l => rw [hb] at hp; exact hp.elim
      | ok b =>
        rw [hb] at hp
        obtain ⟨v, hv, hv2⟩ := bind_eq.1 hb
        obtain ⟨b', rfl, hv3⟩ := onBool_eq.1 hv2
        cases hv3
        have hcx := opd_ok hP st.mem st.env c f _ hf hv
        rw [den_bool] at hcx
        have hcx : a.eval c = .bool b := (Option.some.inj hcx).symm
        have go : ∀ z : Code, Post P E E ρ s w Qx ((runA call (CE.code z E).1 s).near s.l) → (∀ Q', Post P E (CE.code z E).2 ρ s w Q' (runA call (CE.code z E).1 s) → z.wp P Q' a w) → z.wp P Qx a w := by
          intro z hz hcode
          refine hcode Qx ?_
          rw [near_eq] at hz
          cases hr : runA call (CE.code z E).1 s with
          | norm s1 =>
            rw [hr] at hz
            exact ⟨hz.1, fun ρ1 a1 w1 hs1 st1 hg1 => hz.2 ρ1 a1 w1 hs1 (st1.near hg1) (Grows.refl _ _)⟩
          | exit i s1 => rw [hr] at hz; exact hz
          | ret s1 => rw [hr] at hz; exact hz
          | err l => rw [hr] at hz; exact hz
        cases b with
        | true => exact wp_cond_true hcx (go x hp fun Q' h => code_ok hc hdr hco x E hP ρ s a w Q' st h)
        | false => exact wp_cond_false hcx (go y hp fun Q' h => code_ok hc hdr hco y E hP ρ s a w Q' st h)
  | .block id x, E, hP, ρ, s, a, w, Qx, st, hp => by
    have hp : Post P E E ρ s w Qx ((CR.inBlock id (runA call (CE.code x E).1 s)).near s.l) := hp
    rw [near_eq, inBlock_eq] at hp
    refine wp_block (code_ok hc hdr hco x E hP ρ s a w _ st ?_)
    cases hr : runA call (CE.code x E).1 s with
    | norm s1 =>
      rw [hr] at hp
      exact ⟨hp.1, fun ρ1 a1 w1 hs1 st1 hg1 => hp.2 ρ1 a1 w1 hs1 (st1.near hg1) (Grows.refl _ _)⟩
    | exit i s1 =>
      rw [hr] at hp
      by_cases hi : i = id
      · simp only [if_pos hi] at hp
        refine ⟨hp.1, fun ρ1 a1 w1 E1 hs1 st1 hg1 => ?_⟩
        simp only [Exit.inBlock, if_pos hi]
        exact hp.2 ρ1 a1 w1 hs1 (st1.near hg1) (Grows.refl _ _)
      · simp only [if_neg hi] at hp
        refine ⟨hp.1, fun ρ1 a1 w1 E1 hs1 st1 hg1 => ?_⟩
        simp only [Exit.inBlock, if_neg hi]
        exact hp.2 ρ1 a1 w1 E1 hs1 st1 hg1
    | ret s1 => rw [hr] at hp; exact hp
    | err l => rw [hr] at hp; exact hp
  | .loop x, E, hP, ρ, s, a, w, Qx, st, hp => by
    have hp : Post P E E ρ s w Qx (loopN 1000000 (runA call (CE.code x E).1) s) := hp
    refine wp_loop_rounds 1000000 ?_
    generalize 1000000 = n at hp ⊢
    have key : ∀ (n : Nat) (ρ : Rho) (s : St) (a : Act) (w : World), StOk P ρ E s a w → Post P E E ρ s w Qx (loopN n (runA call (CE.code x E).1) s) → Code.rounds P x Qx n a w := by
      intro n
      induction n with
      | zero => intro ρ s a w st hp; exact hp.elim
      | succ n ih =>
        intro ρ s a w st hp
        rw [loopN_succ, then_eq, near_eq] at hp
        rw [rounds_succ]
        refine code_ok hc hdr hco x E hP ρ s a w _ st ?_
        cases hr : runA call (CE.code x E).1 s with
        | norm s1 =>
          rw [hr] at hp
          simp only at hp
          have hmono := loopN_mono (b := runA call (CE.code x E).1) (fun s => runA_mono (CE.code x E).1 (code_mono hc.mono x E) s) n ⟨s.l, s1.tm, s1.hp, s1.df⟩
          cases hr2 : loopN n (runA call (CE.code x E).1) ⟨s.l, s1.tm, s1.hp, s1.df⟩ with
          | err l => rw [hr2] at hp; exact hp.elim
          | norm s2 =>
            rw [hr2] at hp hmono
            refine ⟨hp.1.left hmono, fun ρ1 a1 w1 hs1 st1 hg1 => ?_⟩
            refine ih ρ1 _ a1 w1 (st1.near hg1) ?_
            rw [hr2]
            exact ⟨hp.1.right hs1, fun ρ2 a2 w2 hs2 st2 hg2 => hp.2 ρ2 a2 w2 (hs1.trans hs2) st2 hg2⟩
          | exit i s2 =>
            rw [hr2] at hp hmono
            refine ⟨hp.1.left hmono, fun ρ1 a1 w1 hs1 st1 hg1 => ?_⟩
            refine ih ρ1 _ a1 w1 (st1.near hg1) ?_
            rw [hr2]
            exact ⟨hp.1.right hs1, fun ρ2 a2 w2 E2 hs2 st2 hg2 => hp.2 ρ2 a2 w2 E2 (hs1.trans hs2) st2 hg2⟩
          | ret s2 =>
            rw [hr2] at hp hmono
            refine ⟨hp.1.left hmono, fun ρ1 a1 w1 hs1 st1 hg1 => ?_⟩
            refine ih ρ1 _ a1 w1 (st1.near hg1) ?_
            rw [hr2]
            exact ⟨hp.1.right hs1, fun ρ2 a2 w2 E2 hs2 st2 hg2 => hp.2 ρ2 a2 w2 E2 (hs1.trans hs2) st2 hg2⟩
        | exit i s1 => rw [hr] at hp; exact hp
        | ret s1 => rw [hr] at hp; exact hp
        | err l => rw [hr] at hp; exact hp.elim
    exact key n ρ s a w st hp
  | .exit id, E, hP, ρ, s, a, w, Qx, st, hp => wp_exit (hp.2 ρ a w E (Step.refl _ _ _) st (Grows.refl _ _))
  | .ret, E, hP, ρ, s, a, w, Qx, st, hp => wp_ret (hp.2 ρ a w E (Step.refl _ _ _) st (Grows.refl _ _))
  | .goto _, _, _, _, _, _, _, _, _, hp => hp.elim
  | .scope _, _, _, _, _, _, _, _, _, hp => hp.elim
  | .rangeFunc _ _ _ _, _, _, _, _, _, _, _, _, hp => hp.elim
  | .refuse _, _, _, _, _, _, _, _, _, hp => hp.elim
termination_by c => SizeOf.sizeOf c
end
end Go.AX
