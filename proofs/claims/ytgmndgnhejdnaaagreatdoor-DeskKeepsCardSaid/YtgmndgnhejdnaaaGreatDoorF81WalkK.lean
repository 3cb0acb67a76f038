/- A part of the proof: F81WalkK. -/
import Derived.Test.YtgmndgnhejdnaaaGreatDoorAxE
import Derived.Test.YtgmndgnhejdnaaaGreatDoorCComp1K
import Derived.Test.YtgmndgnhejdnaaaGreatDoorProg
import Derived.Maps.RangeRun
import Derived.Below
namespace Go.Proofs.YtgmndgnhejdnaaaGreatDoor
open Go.AX Go.RowKit
noncomputable def E47 : CE := ⟨Tryz.prog, 32, 4294967295, []⟩
set_option maxRecDepth 100000
theorem e47_ops : E47.ns = [] := rfl
theorem fin47 {ρ : Rho} {h : AH} {w w' : World} {tm : Q AV} {a : Act} {b : Bool} (st : StOk Tryz.prog ρ E47 ⟨[], tm, h, []⟩ a w') (h4 : T (pathOf 4) [] tm = .ok (.bool b)) (hb : Below w.heap.size w w') : a.defers = [] ∧ ∃ v, (results Tryz.f189 a.tmps).run Tryz.prog w' = .ok v w' ∧ (Below w.heap.size w w' ∧ ∃ r, Ending.returned v = .returned (.bool r) ∧ AV.bool b = .bool r) := by
  have hd : a.defers = [] := by
    have := st.df
    cases hq : a.defers with
    | nil => rfl
    | cons x xs => rw [hq] at this; exact this.elim
  refine ⟨hd, ?_⟩
  obtain ⟨x, h1, h2⟩ := results_run (fn := Tryz.f189) (res := [.tmp (T (pathOf 4))]) (vs := [.bool b]) st.mem st.env (by kernel_rfl) (by
    show ((T (pathOf 4) [] tm).bind fun y => (R.ok []).bind fun ys => R.ok (y :: ys)) = _
    rw [h4]; rfl)
  have h1 : den ρ (.bool b) = some x := h1
  rw [den_bool] at h1
  cases h1
  exact ⟨_, h2, hb, b, rfl, rfl⟩
theorem st47_set {ρ : Rho} {h : AH} {w w' : World} {tm : Q AV} {a : Act} {t : Nat} {v : AV} {x : Value} (st : StOk Tryz.prog ρ E47 ⟨[], tm, h, []⟩ a w) (ht : t < 32) (hx : den ρ v = some x) (m : Mem Tryz.prog ρ h w') : StOk Tryz.prog ρ E47 ⟨[], Q.set (pathOf t) (some v) tm, h, []⟩ (a.put (some t) x) w' := ⟨env_set rfl ht st.env hx, m, st.df⟩
theorem st47_drop {ρ : Rho} {h : AH} {w w' : World} {tm : Q AV} {a : Act} {t : Nat} {x : Value} (st : StOk Tryz.prog ρ E47 ⟨[], tm, h, []⟩ a w) (m : Mem Tryz.prog ρ h w') : StOk Tryz.prog ρ E47 ⟨[], Q.set (pathOf t) none tm, h, []⟩ (a.put (some t) x) w' := ⟨env_drop rfl st.env, m, st.df⟩
theorem put_get (a : Act) (t : Nat) (x : Value) (h : t < a.tmps.size) : (a.put (some t) x).tmps[t]? = some x := by
  show (a.tmps.setIfInBounds t x)[t]? = _
  simp [h]
theorem eval_of {a : Act} {t : Nat} {x : Value} (h : a.tmps[t]? = some x) : a.eval (.tmp t) = x := by
  show a.tmps.getD t undef = x
  rw [Array.getD_eq_getD_getElem?, h]; rfl
theorem mem_below {ρ : Rho} {h : AH} {w w' : World} (m : Mem Tryz.prog ρ h w) (hb : Below w.heap.size w w') : Mem Tryz.prog ρ h w' := (m.grown hb.os hb.tape hb.output hb.size hb.block).1
theorem run_extract {ev : Operand → Value} {w : World} {x : Operand} {vs : Array Value} {i : Nat} {v : Value} {dst : Option Tmp} {ty : TypeId} {pos : String} {after : Array Edge} {g : Option (Nat × Bool)} (h : ev x = .tuple vs) (hv : vs[i]? = some v) : (execOp ev ⟨dst, .extract x i, ty, pos, after, g⟩).run Tryz.prog w = .ok (.value v) w := by
  refine exec_v ?_
  rw [h]
  simp [Instr.extract, hv]
def I47 (ρ : Rho) (h : AH) (w : World) (i : Int) (b1 b2 : AX.Id) (o1 o2 : Nat) (needs done : AV) (es : List AE) (a : Act) (w' : World) : Prop :=
  ∃ tm seen, StOk Tryz.prog ρ E47 ⟨[], tm, h, []⟩ a w' ∧ T (pathOf 0) [] tm = .ok (.int .i64 i) ∧ T (pathOf 1) [] tm = .ok (.ptr b1 o1) ∧ T (pathOf 2) [] tm = .ok (.ptr b2 o2) ∧ T (pathOf 4) [] tm = .ok (.bool false) ∧
    a.tmps[10]? = some (.pointer (some ⟨w.heap.size, 0, none⟩)) ∧ Below w.heap.size w w' ∧ IterOk ρ w' w.heap.size es seen ∧ ∀ e ∈ es, seen.contains e.born = true → blockA h needs done i e = .ok false
def mu47 (w : World) (es : List AE) (w' : World) : Nat := match w'.heap[w.heap.size]? with
  | some (.mapIter _ _ seen _) => leftN es seen
  | _ => 0
theorem mu47_eq {ρ : Rho} {w w' : World} {es : List AE} {seen : Array Nat} {e : AE} (hi : IterOk ρ w' w.heap.size es seen) (he : e ∈ es) : mu47 w es w' = leftN es seen := by
  rcases hi with ⟨rfl, _⟩ | ⟨bm, xs, c, h1, _⟩
  · cases he
  · unfold mu47; rw [h1]
theorem ready_walk {ρ : Rho} {h : AH} {w : World} {i : Int} {b1 b2 : AX.Id} {o1 o2 : Nat} {v : AV} {h' : AH} {xs : List Value} (m : Mem Tryz.prog ρ h w) (hx : denL ρ [.int .i64 i, .ptr b1 o1, .ptr b2 o2] = some xs) (hr : readyA noCall [.int .i64 i, .ptr b1 o1, .ptr b2 o2] h = .ok (v, h')) :
    h' = h ∧ Calls Tryz.prog 189 xs.toArray w fun e w' => Below w.heap.size w w' ∧ ∃ r, e = .returned (.bool r) ∧ v = .bool r := by
  obtain ⟨needs, r1, q1⟩ := bind_eq.1 hr
  obtain ⟨done, r2, q2⟩ := bind_eq.1 q1
  obtain ⟨pe, r3, q3⟩ := bind_eq.1 q2
  obtain ⟨bN, oN, rfl, q4⟩ := onPtr_eq.1 q3
  obtain ⟨mm, r4, q5⟩ := bind_eq.1 q4
  obtain ⟨es, r5, q6⟩ := bind_eq.1 q5
  obtain ⟨x, r6, q7⟩ := bind_eq.1 q6
  rw [bsel_eq] at q7
  clear hr q1 q2 q3 q4 q5 q6
  refine ⟨?_, ?_⟩
  · split at q7
    · cases q7; rfl
    · obtain ⟨z, _, q8⟩ := bind_eq.1 q7
      obtain ⟨kk, n, _, q9⟩ := onInt_eq.1 q8
      obtain ⟨_, q10⟩ := tst_eq.1 q9
      cases q10; rfl
  refine calls_of_wp Tryz.func189 rfl ?_
  have henv : EnvOk ρ E47 [] (argsTm [.int .i64 i, .ptr b1 o1, .ptr b2 o2] 0 .nil) (xs.toArray ++ Array.replicate (32 - xs.toArray.size) undef) := env_start hx (by simp)
  have e0 : T (pathOf 0) [] (argsTm [.int .i64 i, .ptr b1 o1, .ptr b2 o2] 0 .nil) = .ok (.int .i64 i) := rfl
  have e1 : T (pathOf 1) [] (argsTm [.int .i64 i, .ptr b1 o1, .ptr b2 o2] 0 .nil) = .ok (.ptr b1 o1) := rfl
  have e2 : T (pathOf 2) [] (argsTm [.int .i64 i, .ptr b1 o1, .ptr b2 o2] 0 .nil) = .ok (.ptr b2 o2) := rfl
  generalize argsTm [.int .i64 i, .ptr b1 o1, .ptr b2 o2] 0 .nil = tm at henv e0 e1 e2
  refine wp_seq ?_
  refine quiet_region (P := Tryz.prog) (ρ := ρ) (h := h) (tm := tm) (E := E47) («as» := [.op (.slot (pathOf 4)) (.pur (C (.bool false)))]) (call := noCall) (Φ := fun s => AX.Left 4 4 tm h s ∧ T (pathOf 4) [] s.tm = .ok (.bool false)) (by kernel_rfl) rfl (by intro x hx; simp at hx; subst hx; trivial) ⟨henv, m, trivial⟩
    (ex_pur rfl (ex_end ⟨⟨rfl, rfl, rfl, fun q hq => by simp only; rw [T_other (pp_ne (by omega))]⟩, T_same⟩)) ?_
  intro a1 s1 hΦ hh st1 hs1
  obtain ⟨⟨d1, d2, d3, d4⟩, d5⟩ := hΦ
  obtain ⟨l1, tm1, hp1, df1⟩ := s1
  simp only at d1 d2 d3 d4 d5
  subst l1; subst hp1; subst df1
  rw [← d4 0 (by omega)] at e0
  rw [← d4 1 (by omega)] at e1
  rw [← d4 2 (by omega)] at e2
  refine wp_seq (wp_seq ?_)
  refine quiet_then (P := Tryz.prog) (E := E47) («as» := as1) (call := noCall) 4 rfl (by kernel_rfl) rfl (by intro x hx; simp [as1] at hx; rcases hx with rfl | rfl | rfl | rfl <;> trivial) st1 (piece1 e0 e1 r1 r3 r4) ?_
  intro a2 s2 hΦ2 hh2 st2 hs2
  obtain ⟨⟨f1, f2, f3, f4⟩, f5⟩ := hΦ2
  have h9 : ∃ y, a2.tmps[9]? = some y ∧ den ρ mm = some y := by
    refine st2.env.slot 9 mm (by kernel_rfl) ?_
    have := f5
    rw [f1] at *
    exact Q.at_eq.1 f5
  obtain ⟨y, g1, g2⟩ := h9
  have hev : a2.eval (.tmp 9) = y := by
    show a2.tmps.getD 9 undef = y
    rw [Array.getD_eq_getD_getElem?, g1]; rfl
  refine wpOp_plain (v := .pointer (some ⟨w.heap.size, 0, none⟩)) (w' := w.alloc (match y with | .map (some bm) => (match w.heap[bm]? with | some (.map _ c) => .mapIter (some bm) c #[] c | _ => .mapIter none 0 #[] 0) | _ => .mapIter none 0 #[] 0)) rfl rfl ?_ ?_
  · unfold entriesA at r5
    split at r5
    · simp only [den, Option.some.injEq] at g2
      subst g2
      simp only [execOp]
      exact exec_v (by rw [show a2.eval (Operand.tmp 9) = .map none from hev]; exact run_range_nilMap w 320 _ _ Tryz.underlying320)
    · obtain ⟨ob, u1, u2⟩ := bind_eq.1 r5
      obtain ⟨es', c, rfl, u3⟩ := onMapO_eq.1 u2
      obtain ⟨lc, u4, rfl⟩ := den_map_eq ρ g2
      obtain ⟨ys, u5, u6⟩ := map_mem m u4 (Q.at_eq.1 u1)
      simp only [execOp, u5]
      exact exec_v (by rw [show a2.eval (Operand.tmp 9) = .map (some lc.cb) from hev]; exact run_range_map w 320 _ _ lc.cb ys c Tryz.underlying320 u5)
    · cases r5
  have hI0 : IterOk ρ (w.alloc (match y with | .map (some bm) => (match w.heap[bm]? with | some (.map _ c) => .mapIter (some bm) c #[] c | _ => .mapIter none 0 #[] 0) | _ => .mapIter none 0 #[] 0)) w.heap.size es #[] := by
    unfold entriesA at r5
    split at r5
    · simp only [den, Option.some.injEq] at g2
      subst g2
      cases r5
      exact .inl ⟨rfl, 0, #[], 0, Array.getElem?_push_size⟩
    · obtain ⟨ob, u1, u2⟩ := bind_eq.1 r5
      obtain ⟨es', c, rfl, u3⟩ := onMapO_eq.1 u2
      obtain ⟨v1, v2⟩ := tst_eq.1 u3
      cases v2
      obtain ⟨lc, u4, rfl⟩ := den_map_eq ρ g2
      obtain ⟨ys, u5, u6⟩ := map_mem m u4 (Q.at_eq.1 u1)
      simp only [u5]
      have hlt := (Array.getElem?_eq_some_iff.1 u5).1
      obtain ⟨_, k2, k3⟩ := bornsOk_ok v1
      have hb : ys.toList.map (·.born) = es.map (·.born) := by
        refine List.ext_getElem? fun n => ?_
        rw [List.getElem?_map, List.getElem?_map]
        cases hn : es[n]? with
        | none =>
          have : ys.toList[n]? = none := by
            rw [List.getElem?_eq_none_iff] at hn ⊢
            rw [u6.1]; exact hn
          rw [this]; rfl
        | some e =>
          have hl := (List.getElem?_eq_some_iff.1 hn).1
          have hl' : n < ys.toList.length := by rw [u6.1]; exact hl
          have hy := List.getElem?_eq_getElem hl'
          rw [hy]
          have := (u6.2 n e _ hn hy).2.2
          simp [this]
      refine .inr ⟨lc.cb, ys, c, Array.getElem?_push_size, by rw [Below.heap_alloc _ _ _ hlt]; exact u5, by omega, u6, fun x hx => ?_, by rw [hb]; exact k3⟩
      have hm : x.born ∈ es.map (·.born) := by rw [← hb]; exact List.mem_map_of_mem hx
      obtain ⟨e, he, hee⟩ := List.mem_map.1 hm
      rw [← hee]; exact (k2 e he).2
    · cases r5
  obtain ⟨l2, tm2, hp2, df2⟩ := s2
  simp only at f1 f2 f3 f4 f5 hh2
  subst l2; subst hp2; subst df2
  rw [← f4 0 (by omega)] at e0
  rw [← f4 1 (by omega)] at e1
  rw [← f4 2 (by omega)] at e2
  rw [← f4 4 (by omega)] at d5
  have hsz : a2.tmps.size = 32 := st2.env.size
  have hB0 : ∀ o, Below w.heap.size w (w.alloc o) := fun o => (Below.refl _ _).alloc (Nat.le_refl _) o
  refine wp_block ?_
  refine wp_loop (fun a w' => I47 ρ h w i b1 b2 o1 o2 needs done es a w') (fun _ w' => mu47 w es w') ?_ ?_
  · refine ⟨Q.set (pathOf 10) none tm2, #[], st47_drop st2 (mem_below m (hB0 _)), ?_, ?_, ?_, ?_, ?_, hB0 _, ?_, fun e _ hc => by simp at hc⟩
    · rw [T_drop (by omega)]; exact e0
    · rw [T_drop (by omega)]; exact e1
    · rw [T_drop (by omega)]; exact e2
    · rw [T_drop (by omega)]; exact d5
    · exact put_get a2 10 _ (by omega)
    · exact hI0
  clear e0 e1 e2 d5 hI0 st2 hev f4 f5 g1 d4 st1 henv
  intro a w' ⟨tm, seen, st, e0, e1, e2, e4, e10, hB, hI, hS⟩
  have hsz : a.tmps.size = 32 := st.env.size
  refine wp_seq (wp_region ?_)
  show wpOps _ _ _ [0, 1] _ _
  rw [wpOps_cons]
  rcases iter_step (P := Tryz.prog) hI 0 with ⟨n1, n2⟩ | ⟨e, he, hne, kx, vx, w'', n1, hI', hbut, n2, n3, n4⟩
  · refine wpOp_at 11 rfl rfl rfl (exec_v (by rw [eval_of e10]; exact n1)) ?_
    rw [wpOps_cons]
    refine wpOp_at (v := .bool false) 12 rfl rfl rfl (run_extract (eval_of (put_get a 11 _ (by omega))) rfl) ?_
    have st1 := st47_drop (t := 11) (x := .tuple #[.bool false]) st st.mem
    have st2 := st47_set (t := 12) (v := .bool false) st1 (by omega) (den_bool _ _) st.mem
    refine wp_seq (wp_cond_false (eval_of (put_get _ 12 _ (by show 12 < (a.put (some 11) _).tmps.size; rw [st1.env.size]; show 12 < 32; omega))) (wp_exit ?_))
    show Code.wp _ _ _ _ _
    have e0' : T (pathOf 0) [] (Q.set (pathOf 12) (some (.bool false)) (Q.set (pathOf 11) none tm)) = .ok (.int .i64 i) := by rw [T_other (pp_ne (by omega)), T_drop (by omega)]; exact e0
    have e2' : T (pathOf 2) [] (Q.set (pathOf 12) (some (.bool false)) (Q.set (pathOf 11) none tm)) = .ok (.ptr b2 o2) := by rw [T_other (pp_ne (by omega)), T_drop (by omega)]; exact e2
    have hx : x = false := by
      obtain ⟨g1, g2⟩ := anyA_ok r6
      cases hx : x with
      | false => rfl
      | true =>
        obtain ⟨e, he, hb⟩ := g2.1 hx
        rw [hS e he (n2 e he)] at hb
        cases hb
    rw [if_neg (by simp [hx])] at q7
    obtain ⟨z, hz, q8⟩ := bind_eq.1 q7
    obtain ⟨kk, n, rfl, q9⟩ := onInt_eq.1 q8
    obtain ⟨hk, q10⟩ := tst_eq.1 q9
    cases q10
    obtain rfl : kk = .i64 := kindEq_eq hk
    refine wp_seq (quiet_region (P := Tryz.prog) (E := E47) («as» := as6) (call := noCall) (by kernel_rfl) rfl (by intro x hx; simp [as6] at hx; rcases hx with rfl | rfl | rfl | rfl | rfl <;> trivial) st2 (piece6 e0' e2' r2 hz) ?_)
    intro a5 s5 hΦ hh5 st5 _
    obtain ⟨c1, c2, c3, c4⟩ := hΦ
    obtain ⟨l5, tm5, hp5, df5⟩ := s5
    simp only at c1 c2 c3 c4
    subst l5; subst hp5; subst df5
    refine wp_ret ?_
    exact fin47 st5 c4 hB
  · have hB' : Below w.heap.size w w'' := hbut.below hB (Nat.le_refl _)
    have hm' : Mem Tryz.prog ρ h w'' := mem_below m hB'
    refine wpOp_at 11 rfl rfl rfl (exec_v (by rw [eval_of e10]; exact n1)) ?_
    rw [wpOps_cons]
    refine wpOp_at (v := .bool true) 12 rfl rfl rfl (run_extract (eval_of (put_get a 11 _ (by omega))) rfl) ?_
    have st1 := st47_drop (t := 11) (x := .tuple #[.bool true, kx, vx]) st hm'
    have st2 := st47_set (t := 12) (v := .bool true) st1 (by omega) (den_bool _ _) hm'
    have e10' : ((a.put (some 11) (.tuple #[.bool true, kx, vx])).put (some 12) (.bool true)).tmps[10]? = some (.pointer (some ⟨w.heap.size, 0, none⟩)) := by
      rw [put_other _ _ _ _ (by simp), put_other _ _ _ _ (by simp)]; exact e10
    refine wp_seq (wp_cond_true (eval_of (put_get _ 12 _ (by show 12 < (a.put (some 11) _).tmps.size; rw [st1.env.size]; show 12 < 32; omega))) (wp_skip ?_))
    show Code.wp _ _ _ _ _
    have i0 : T (pathOf 0) [] (Q.set (pathOf 12) (some (.bool true)) (Q.set (pathOf 11) none tm)) = .ok (.int .i64 i) := by rw [T_other (pp_ne (by omega)), T_drop (by omega)]; exact e0
    have i1 : T (pathOf 1) [] (Q.set (pathOf 12) (some (.bool true)) (Q.set (pathOf 11) none tm)) = .ok (.ptr b1 o1) := by rw [T_other (pp_ne (by omega)), T_drop (by omega)]; exact e1
    have i2 : T (pathOf 2) [] (Q.set (pathOf 12) (some (.bool true)) (Q.set (pathOf 11) none tm)) = .ok (.ptr b2 o2) := by rw [T_other (pp_ne (by omega)), T_drop (by omega)]; exact e2
    have i4 : T (pathOf 4) [] (Q.set (pathOf 12) (some (.bool true)) (Q.set (pathOf 11) none tm)) = .ok (.bool false) := by rw [T_other (pp_ne (by omega)), T_drop (by omega)]; exact e4
    generalize Q.set (pathOf 12) (some (.bool true)) (Q.set (pathOf 11) none tm) = tmA at st2 i0 i1 i2 i4
    generalize ((a.put (some 11) (.tuple #[.bool true, kx, vx])).put (some 12) (.bool true)) = aA at st2 e10' ⊢
    clear st1
    have hszA : aA.tmps.size = 32 := st2.env.size
    refine wp_block (wp_seq (wp_region ?_))
    show wpOps _ _ _ [0, 1, 2] _ _
    rw [wpOps_cons]
    refine wpOp_at 13 rfl rfl rfl (exec_v (by rw [eval_of e10']; exact n4)) ?_
    rw [wpOps_cons]
    refine wpOp_at (v := kx) 14 rfl rfl rfl (run_extract (eval_of (put_get aA 13 _ (by omega))) rfl) ?_
    rw [wpOps_cons]
    have st3 := st47_drop (t := 13) (x := .tuple #[kx, vx]) st2 hm'
    have st4 := st47_drop (t := 14) (x := kx) st3 hm'
    have hszB : (aA.put (some 13) (.tuple #[kx, vx])).tmps.size = 32 := st3.env.size
    refine wpOp_at (v := kx) (w' := w'') 5 rfl rfl rfl (run_assign (eval_of (put_get (aA.put (some 13) (.tuple #[kx, vx])) 14 kx (by omega)))) ?_
    have st5 := st47_set (t := 5) (v := e.key) st4 (by omega) n2 hm'
    have j10 : (((aA.put (some 13) (.tuple #[kx, vx])).put (some 14) kx).put (some 5) kx).tmps[10]? = some (.pointer (some ⟨w.heap.size, 0, none⟩)) := by
      rw [put_other _ _ _ _ (by simp), put_other _ _ _ _ (by simp), put_other _ _ _ _ (by simp)]; exact e10'
    have j5 : T (pathOf 5) [] (Q.set (pathOf 5) (some e.key) (Q.set (pathOf 14) none (Q.set (pathOf 13) none tmA))) = .ok e.key := T_same
    have k : ∀ q, q ≠ 5 → q ≠ 13 → q ≠ 14 → T (pathOf q) [] (Q.set (pathOf 5) (some e.key) (Q.set (pathOf 14) none (Q.set (pathOf 13) none tmA))) = T (pathOf q) [] tmA := fun q h1 h2 h3 => by
      rw [T_other (pp_ne h1), T_drop h3, T_drop h2]
    rw [← k 0 (by omega) (by omega) (by omega)] at i0
    rw [← k 1 (by omega) (by omega) (by omega)] at i1
    rw [← k 2 (by omega) (by omega) (by omega)] at i2
    rw [← k 4 (by omega) (by omega) (by omega)] at i4
    clear k st4 st3 st2
    generalize Q.set (pathOf 5) (some e.key) (Q.set (pathOf 14) none (Q.set (pathOf 13) none tmA)) = tmB at st5 i0 i1 i2 i4 j5
    generalize (((aA.put (some 13) (.tuple #[kx, vx])).put (some 14) kx).put (some 5) kx) = aB at st5 j10 ⊢
    obtain ⟨g1, g2⟩ := anyA_ok r6
    obtain ⟨bk, hbk⟩ := g1 e he
    have hpc : ∃ s, opsK noCall as4 [] tmB h [] = .norm s ∧ (AX.Left 15 27 tmB h s ∧ T (pathOf 27) [] s.tm = .ok (.bool bk)) := by
      have hb := hbk
      unfold blockA at hb
      obtain ⟨kk, kn, hkey, z1⟩ := onInt_eq.1 hb
      obtain ⟨z2, z3⟩ := tst_eq.1 z1
      obtain rfl := kindEq_eq z2
      obtain ⟨zv, z4, z5⟩ := bind_eq.1 z3
      obtain ⟨nk, nn, rfl, z6⟩ := onInt_eq.1 z5
      obtain ⟨z7, z8⟩ := tst_eq.1 z6
      obtain rfl := kindEq_eq z7
      rw [hkey] at j5
      rw [bsel_eq] at z8
      split at z8
      · rename_i hn
        obtain ⟨p, y1, y2⟩ := bind_eq.1 z8
        obtain ⟨pb, po, rfl, y3⟩ := onPtr_eq.1 y2
        obtain ⟨mv, y4, y5⟩ := bind_eq.1 y3
        obtain ⟨lv, y6, y7⟩ := bind_eq.1 y5
        obtain ⟨nk', nn', rfl, y8⟩ := onInt_eq.1 y7
        obtain ⟨y9, y10⟩ := tst_eq.1 y8
        obtain rfl := kindEq_eq y9
        cases y10
        exact piece4_yes i0 i1 i2 j5 r2 z4 hn r1 y1 y4 y6
      · rename_i hn
        cases z8
        exact piece4_no i2 j5 r2 z4 (by simpa using hn)
    refine wp_seq (quiet_region (P := Tryz.prog) (E := E47) («as» := as4) (call := noCall) (by kernel_rfl) rfl (by intro x hx; simp [as4] at hx; rcases hx with rfl | rfl | rfl | rfl | rfl | rfl | rfl | rfl | rfl | rfl | rfl | rfl | rfl <;> trivial) st5 hpc ?_)
    intro a6 s6 hΦ hh6 st6 hs6
    obtain ⟨⟨c1, c2, c3, c4⟩, c5⟩ := hΦ
    obtain ⟨l6, tm6, hp6, df6⟩ := s6
    simp only at c1 c2 c3 c4 c5
    subst l6; subst hp6; subst df6
    rw [← c4 0 (by omega)] at i0
    rw [← c4 1 (by omega)] at i1
    rw [← c4 2 (by omega)] at i2
    rw [← c4 4 (by omega)] at i4
    have j10' : a6.tmps[10]? = some (.pointer (some ⟨w.heap.size, 0, none⟩)) := by
      rw [hs6 10 (by simp)]; exact j10
    have h27 : a6.eval (.tmp 27) = .bool bk := by
      obtain ⟨y, y1, y2⟩ := st6.env.slot 27 _ (by kernel_rfl) (Q.at_eq.1 c5)
      rw [den_bool] at y2
      cases y2
      exact eval_of y1
    cases bk with
    | true =>
      have hx : x = true := g2.2 ⟨e, he, hbk⟩
      rw [if_pos hx] at q7
      cases q7
      refine wp_cond_true h27 (wp_seq (quiet_region (P := Tryz.prog) (E := E47) («as» := [.op (.slot (pathOf 4)) (.pur (C (.bool false)))]) (call := noCall) (Φ := fun s => s.l = [] ∧ s.hp = h ∧ s.df = [] ∧ T (pathOf 4) [] s.tm = .ok (.bool false)) (by kernel_rfl) rfl (by intro x hx; simp at hx; subst hx; trivial) st6
        (ex_pur rfl (ex_end ⟨rfl, rfl, rfl, T_same⟩)) ?_))
      intro a7 s7 hΦ _ st7 _
      obtain ⟨c1, c2, c3, c4⟩ := hΦ
      obtain ⟨l7, tm7, hp7, df7⟩ := s7
      simp only at c1 c2 c3 c4
      subst l7; subst hp7; subst df7
      refine wp_ret ?_
      exact fin47 st7 c4 hB'
    | false =>
      refine wp_cond_false h27 (wp_skip ?_)
      refine ⟨⟨tm6, seen.push e.born, st6, i0, i1, i2, i4, j10', hB', hI', fun e' he' hc => ?_⟩, ?_⟩
      · rw [Array.contains_push, Bool.or_eq_true] at hc
        rcases hc with hc | hc
        · exact hS e' he' hc
        · rw [← eq_of_born (entriesA_nodup r5) he' he (by simpa using hc)] at hbk; exact hbk
      · show mu47 w es w'' < mu47 w es w'
        rw [mu47_eq hI' he, mu47_eq hI he]
        exact leftN_push he hne
end Go.Proofs.YtgmndgnhejdnaaaGreatDoor
