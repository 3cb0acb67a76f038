/- The abstract executor: functions. -/
import Derived.Test.YtgmndgnhejdnaaaGreatDoorAxD
import Derived.Below
import Derived.LaidLaws
import Derived.Stop.ErrReads
import Derived.Maps.RangeRun
import Derived.Laws.Externs
import Derived.Lib.Index
import Derived.Lib.Bytealg
import Derived.ProofKit
import Derived.OpenShut
import Derived.ChangeSame
import Derived.Lib.LaidTab
import Derived.Sort.Grow
namespace Go.AX

theorem argsTm_get : ∀ (l : List AV) (i : Nat) (t : Q AV) (j : Nat), Q.get (pathOf j) (argsTm l i t) = if i ≤ j ∧ j < i + l.length then l[j - i]? else Q.get (pathOf j) t
  | [], i, t, j => by rw [if_neg (by simp)]; rfl
  | v :: l, i, t, j => by
    show Q.get (pathOf j) (argsTm l (i + 1) (Q.set (pathOf i) (some v) t)) = _
    rw [argsTm_get l (i + 1) _ j]
    by_cases h1 : i + 1 ≤ j ∧ j < i + 1 + l.length
    · rw [if_pos h1, if_pos (by simp; omega)]
      have : j - i = (j - (i + 1)) + 1 := by omega
      rw [this]; simp
    · rw [if_neg h1, Q.get_set]
      by_cases h2 : pathOf j = pathOf i
      · have := pathOf_inj h2; subst this
        rw [if_pos rfl, if_pos (by simp)]; simp
      · rw [if_neg h2, if_neg]
        intro h3
        simp at h3
        exact h2 (by congr 1; omega)
section
variable {P : Program} {X : Ext} {call : CallH}
theorem env_start {ρ : Rho} {args : List AV} {xs : List Value} {nt mask : Nat} (h : denL ρ args = some xs) (hn : args.length ≤ nt) : EnvOk ρ ⟨P, nt, mask, []⟩ [] (argsTm args 0 .nil) (xs.toArray ++ Array.replicate (nt - xs.toArray.size) undef) := by
  have hl := denL_length h
  refine ⟨by simp; omega, fun t v _ hv => ?_, rfl, fun k t v hk => by simp at hk⟩
  rw [argsTm_get] at hv
  split at hv
  · rename_i ht
    obtain ⟨x, h1, h2⟩ := denL_get h t v (by simpa using hv)
    refine ⟨x, ?_, h2⟩
    rw [Array.getElem?_append_left (by simp; omega)]
    simpa using h1
  · simp at hv
theorem getRes_ok {ρ : Rho} {h : AH} {w : World} {nt mask : Nat} {l : List AV} {tm : Q AV} {ts : Array Value} {r : ResultVar} {ar : ARes} {v : AV} {ns : List Nat} (m : Mem P ρ h w) (he : EnvOk ρ ⟨P, nt, mask, ns⟩ l tm ts) (hr : resOf P mask r = .ok ar) (hv : getRes tm h ar = .ok v) :
    ∃ x, den ρ v = some x ∧ ((match r with
      | .tmp t => pure (ts.getD t undef)
      | .cell a t => do loadVar t (← asAddr (ts.getD a undef)) : Sem Value)).run P w = .ok x w := by
  cases r with
  | tmp t =>
    obtain ⟨h1, h2⟩ := tst_eq.1 hr
    cases h2
    obtain ⟨x, g1, g2⟩ := he.slot t v h1 (Q.at_eq.1 hv)
    refine ⟨x, g2, ?_⟩
    simp only [Sem.run_pure]
    rw [Array.getD_eq_getD_getElem?, g1]; rfl
  | cell c t =>
    obtain ⟨h1, h2⟩ := tst_eq.1 hr
    obtain ⟨b, hb, h3⟩ := bind_eq.1 h2
    obtain ⟨n, hn, h4⟩ := bind_eq.1 h3
    cases h4
    rw [bsel_eq] at hv
    cases b with
    | true =>
      rw [if_pos rfl] at hv
      have hv : loadNF n (T (pathOf c)) [] tm h = .ok v := hv
      obtain ⟨u, hu, hh⟩ := bind_eq.1 hv
      obtain ⟨bb, off, rfl, hh2⟩ := onPtr_eq.1 hh
      obtain ⟨ob, e1, hh3⟩ := bind_eq.1 hh2
      obtain ⟨vs, e2, hh4⟩ := bind_eq.1 hh3
      cases hh4
      obtain ⟨x, g1, g2⟩ := he.slot c _ h1 (Q.at_eq.1 hu)
      obtain ⟨lc, hl, rfl⟩ := den_ptr_eq ρ g2
      obtain ⟨z, h5, h6⟩ := loadVarN_run m hb hn hl (bind_eq.2 ⟨ob, e1, e2⟩)
      refine ⟨z, h5, ?_⟩
      simp only [Sem.run_bind]
      rw [Array.getD_eq_getD_getElem?, g1]
      simp only [Option.getD_some, asAddr, Sem.run_pure, Result.andThen_ok, h6]
    | false =>
      rw [if_neg (by simp)] at hv
      have hv : load1F (T (pathOf c)) [] tm h = .ok v := hv
      obtain ⟨u, hu, hh⟩ := bind_eq.1 hv
      obtain ⟨bb, off, rfl, hh2⟩ := onPtr_eq.1 hh
      obtain ⟨x, g1, g2⟩ := he.slot c _ h1 (Q.at_eq.1 hu)
      obtain ⟨lc, hl, rfl⟩ := den_ptr_eq ρ g2
      obtain ⟨z, h5, h6⟩ := loadVar1_run m hb hl hh2
      refine ⟨z, h5, ?_⟩
      simp only [Sem.run_bind]
      rw [Array.getD_eq_getD_getElem?, g1]
      simp only [Option.getD_some, asAddr, Sem.run_pure, Result.andThen_ok, h6]
theorem results_run {ρ : Rho} {h : AH} {w : World} {nt mask : Nat} {l : List AV} {tm : Q AV} {ts : Array Value} {ns : List Nat} {fn : Func} {res : List ARes} {vs : List AV} (m : Mem P ρ h w) (he : EnvOk ρ ⟨P, nt, mask, ns⟩ l tm ts) (hr : mapR (resOf P mask) fn.results.toList = .ok res)
    (hv : mapR (getRes tm h) res = .ok vs) : ∃ x, den ρ (shutRes vs) = some x ∧ (results fn ts).run P w = .ok x w := by
  let g : ResultVar → Sem Value := fun
    | .tmp t => pure (ts.getD t undef)
    | .cell a t => do loadVar t (← asAddr (ts.getD a undef))
  have key : ∀ (rs : List ResultVar) (res : List ARes) (vs : List AV), mapR (resOf P mask) rs = .ok res → mapR (getRes tm h) res = .ok vs → ∃ xs, denL ρ vs = some xs ∧ (rs.mapM g).run P w = .ok xs w := by
    intro rs
    induction rs with
    | nil => intro res vs h1 h2; cases h1; cases h2; exact ⟨[], rfl, rfl⟩
    | cons r rs ih =>
      intro res vs h1 h2
      obtain ⟨ar, ars, e1, e2, rfl⟩ := mapR_cons_eq.1 h1
      obtain ⟨v, vs', e3, e4, rfl⟩ := mapR_cons_eq.1 h2
      obtain ⟨xs, g1, g2⟩ := ih ars vs' e2 e4
      obtain ⟨x, g3, g4⟩ := getRes_ok m he e1 e3
      have g4 : (g r).run P w = .ok x w := by cases r <;> exact g4
      exact ⟨x :: xs, denL_cons_eq.2 ⟨x, xs, g3, g1, rfl⟩, by simp only [List.mapM_cons, Sem.run_bind, g4, Result.andThen_ok, g2, Sem.run_pure]⟩
  obtain ⟨xs, h1, h2⟩ := key fn.results.toList res vs hr hv
  have hrun : (results fn ts).run P w = .ok (if h : xs.toArray.size = 1 then xs.toArray[0] else .tuple xs.toArray) w := by
    show ((do
      let vs ← fn.results.mapM g
      pure (if h : vs.size = 1 then vs[0] else .tuple vs) : Sem Value)).run P w = _
    rw [Array.mapM_eq_mapM_toList]
    simp only [map_eq_pure_bind, bind_assoc, pure_bind, Sem.run_bind, h2, Result.andThen_ok, Sem.run_pure]
  refine ⟨_, ?_, hrun⟩
  have hlen := denL_length h1
  cases vs with
  | nil =>
    have : xs = [] := List.length_eq_zero_iff.1 (by rw [hlen]; rfl)
    subst this
    exact den_tuple h1
  | cons v vs =>
    cases vs with
    | nil =>
      obtain ⟨y, ys, e1, e2, rfl⟩ := denL_cons_eq.1 h1
      cases e2
      exact e1
    | cons v' vs =>
      rw [dif_neg (by simp [hlen])]
      exact den_tuple h1

structure FnOk (P : Program) (f : FuncId) (a : AFn) : Prop where
  ex : ∃ fn c mask, P.funcs[f]? = some fn ∧ (fn.name == "runtime.NumGoroutine") = false ∧ fn.body = some c ∧ a.nt = fn.ntmps ∧ a.code = (CE.code c ⟨P, fn.ntmps, mask, []⟩).1 ∧ mapR (resOf P mask) fn.results.toList = .ok a.res
theorem fnOk_of {f : FuncId} {a : AFn} {mask : Nat} {fn : Func} (hf : P.funcs[f]? = some fn) (hn : (fn.name == "runtime.NumGoroutine") = false) (h : compFn P mask f = .ok a) : FnOk P f a := by
  obtain ⟨fn', h1, h2⟩ := bind_eq.1 h
  have h1 := ofOpt_eq.1 h1
  rw [hf] at h1
  cases h1
  obtain ⟨c, h3, h4⟩ := bind_eq.1 h2
  obtain ⟨l, h5, h6⟩ := bind_eq.1 h4
  cases h6
  exact ⟨fn, c, mask, hf, hn, ofOpt_eq.1 h3, rfl, rfl, h5⟩
theorem callFunc_run {f : FuncId} {fn : Func} {c : Code} (hf : P.funcs[f]? = some fn) (hname : (fn.name == "runtime.NumGoroutine") = false) (hb : fn.body = some c) (args : Array Value) (w : World) : (callFunc f args).run P w = .ok (.enter f args) w := by
  have h' : ¬ fn.name = "runtime.NumGoroutine" := by simpa using hname
  simp [callFunc, hf, h', hb]
def DefOk (P : Program) (callD : CallH) : Prop := ∀ f args h v h', callD f args h = .ok (v, h') → num h.nx ≤ num h'.nx ∧ ∀ ρ w xs, Mem P ρ h w → Free ρ h h' → denL ρ args = some xs → ∀ u,
  (callFunc f xs.toArray).run P w = .ok (.enter f xs.toArray) w ∧ CallsD P f xs.toArray u w (fun e u' w' => u' = u ∧ Good P ρ h w v h' e w')
theorem defers_mono {callD : CallH} (hd : DefOk P callD) : ∀ {df : List ADefer} {h h' : AH}, runDefers callD df h = .ok h' → num h.nx ≤ num h'.nx
  | [], h, h', hr => by
    have hr : R.ok h = .ok h' := hr
    cases hr; exact Nat.le_refl _
  | d :: df, h, h', hr => by
    have hr : ((callD d.f d.args h).bind fun r => runDefers callD df r.2) = .ok h' := hr
    obtain ⟨⟨v, h1⟩, e1, e2⟩ := bind_eq.1 hr
    exact Nat.le_trans (hd _ _ _ _ _ e1).1 (defers_mono hd e2)
theorem leaves_ok {callD : CallH} (hd : DefOk P callD) {fn : Func} {nt mask : Nat} {ns : List Nat} {l : List AV} {tm : Q AV} {ts : Array Value} {res : List ARes} {R : Ending → World → Prop} (hres : mapR (resOf P mask) fn.results.toList = .ok res) :
    ∀ (df : List ADefer) (ds : List Deferred) (ρ : Rho) (h h' : AH) (w : World) (vs : List AV), DfOk ρ df ds → Mem P ρ h w → EnvOk ρ ⟨P, nt, mask, ns⟩ l tm ts → runDefers callD df h = .ok h' → mapR (getRes tm h') res = .ok vs → Free ρ h h' →
      (∀ e w' , Good P ρ h w (shutRes vs) h' e w' → R e w') → Leaves P fn ts R ds .returning w
  | [], [], ρ, h, h', w, vs, _, m, he, hr, hv, hf, hR => by
    have hr : Go.AX.R.ok h = .ok h' := hr
    cases hr
    obtain ⟨x, h1, h2⟩ := results_run m he hres hv
    exact ⟨x, h2, hR _ _ ⟨ρ, x, rfl, Step.refl ρ h w, m, h1⟩⟩
  | d :: df, x :: ds, ρ, h, h', w, vs, hdf, m, he, hr, hv, hf, hR => by
    have hr : ((callD d.f d.args h).bind fun r => runDefers callD df r.2) = .ok h' := hr
    obtain ⟨⟨v, h1⟩, e1, e2⟩ := bind_eq.1 hr
    obtain ⟨⟨cap, g1, g2⟩, g3⟩ := hdf
    obtain ⟨_, hcall⟩ := hd _ _ _ _ _ e1
    obtain ⟨c1, c2⟩ := hcall ρ w (x.args ++ cap).toList m (hf.left (defers_mono hd e2)) g2 .returning
    obtain ⟨tg, ar⟩ := x
    simp only at g1 g2 c1 c2
    subst g1
    rw [Array.toArray_toList] at c1 c2
    refine leaves_cons (by simp) (by simpa [invoke] using c1) (CallsD.mono c2 fun e u' w' hh => ?_)
    obtain ⟨rfl, ρ', y, rfl, hs, hm, hy⟩ := hh
    exact leaves_ok hd hres df ds ρ' h1 h' w' vs (g3.mono hs.ext) hm (he.mono hs.ext) e2 hv (hf.right hs) fun e w2 ⟨ρ2, z, q1, q2, q3, q4⟩ => hR e w2 ⟨ρ2, z, q1, hs.trans q2, q3, q4⟩
  | [], _ :: _, _, _, _, _, _, h, _, _, _, _, _, _ => h.elim
  | _ :: _, [], _, _, _, _, _, h, _, _, _, _, _, _ => h.elim
theorem tagE_ok {α : Type} {l : List Nat} {x : R α} {a : α} (h : tagE l x = .ok a) : x = .ok a := by
  cases x with
  | ok b => exact h
  | err m => cases h
theorem leave_ok {callD : CallH} {res : List ARes} {s : St} {v : AV} {h' : AH} (h : leave callD res s = .ok (v, h')) : ∃ vs, runDefers callD s.df s.hp = .ok h' ∧ mapR (getRes s.tm h') res = .ok vs ∧ v = shutRes vs := by
  obtain ⟨h1, e1, e2⟩ := bind_eq.1 h
  obtain ⟨vs, e3, e4⟩ := bind_eq.1 e2
  cases e4
  exact ⟨vs, e1, e3, rfl⟩
theorem endFn_ok {callD : CallH} {res : List ARes} {r : CR} {v : AV} {h' : AH} (h : endFn callD res r = .ok (v, h')) : ∃ s, (r = .norm s ∨ r = .ret s) ∧ leave callD res s = .ok (v, h') := by
  cases r with
  | norm s => exact ⟨s, .inl rfl, h⟩
  | ret s => exact ⟨s, .inr rfl, h⟩
  | exit i s => cases h
  | err l => cases h
theorem runFn_mono {callD : CallH} {f : FuncId} {a : AFn} {args : List AV} {h h' : AH} {v : AV} (hm : MonoCall call) (hD : ∀ df h h', runDefers callD df h = .ok h' → num h.nx ≤ num h'.nx) (hfn : FnOk P f a) (hr : runFn call callD a args h = .ok (v, h')) : num h.nx ≤ num h'.nx := by
  obtain ⟨_, h1⟩ := tst_eq.1 hr
  obtain ⟨fn, c, mask, _, _, _, _, hcode, _⟩ := hfn.ex
  obtain ⟨s, h2, h3⟩ := endFn_ok h1
  obtain ⟨vs, h4, _, _⟩ := leave_ok h3
  have h5 := runA_mono a.code (by rw [hcode]; exact code_mono hm c _) ⟨[], argsTm args 0 .nil, h, []⟩
  have h6 : num h.nx ≤ num s.hp.nx := by
    rcases h2 with h2 | h2 <;> (rw [h2] at h5; exact h5)
  exact Nat.le_trans h6 (hD _ _ _ h4)
theorem fn_calls {callD : CallH} (hc : CallOk P X call) (hD : DefOk P callD) {f : FuncId} {a : AFn} {args : List AV} {h h' : AH} {v : AV} (hfn : FnOk P f a) (hr : runFn call callD a args h = .ok (v, h')) {ρ : Rho} {w : World} {xs : List Value} (m : Mem P ρ h w) (hf : Free ρ h h') (hx : denL ρ args = some xs) :
    (callFunc f xs.toArray).run P w = .ok (.enter f xs.toArray) w ∧ Calls P f xs.toArray w (Good P ρ h w v h') := by
  obtain ⟨hle, h1⟩ := tst_eq.1 hr
  rw [natBle_eq, len_eq] at hle
  obtain ⟨fn, c, mask, hfun, hname, hbody, hnt, hcode, hres⟩ := hfn.ex
  rw [hnt] at hle
  refine ⟨callFunc_run hfun hname hbody _ _, ?_⟩
  obtain ⟨s, h2, h3⟩ := endFn_ok h1
  obtain ⟨vs, h4, h5, rfl⟩ := leave_ok h3
  have hfs : Free ρ h s.hp := hf.left (defers_mono hD h4)
  rw [hcode] at h2
  refine calls_of_wp_defers hfun hbody (code_ok hc (draw_ok hc) coin_ok c ⟨P, fn.ntmps, mask, []⟩ rfl ρ ⟨[], argsTm args 0 .nil, h, []⟩ _ w _ ⟨env_start hx hle, m, trivial⟩ ?_)
  have fin : ∀ ρ' a' w' E', Step ρ h w ρ' s.hp w' → StOk P ρ' E' s a' w' → Grows ⟨P, fn.ntmps, mask, []⟩ [] E' s.l → Leaves P fn a'.tmps (Good P ρ h w (shutRes vs) h') a'.defers .returning w' := by
    intro ρ' a' w' E' hs st hg
    exact leaves_ok hD hres s.df a'.defers ρ' s.hp h' w' vs st.df st.mem (hg.back st.env) h4 h5 (hf.right hs) fun e w2 ⟨ρ2, z, q1, q2, q3, q4⟩ => ⟨ρ2, z, q1, hs.trans q2, q3, q4⟩
  rcases h2 with h2 | h2
  · rw [h2]; exact ⟨hfs, fun ρ' a' w' hs st hg => fin ρ' a' w' _ hs st hg⟩
  · rw [h2]; exact ⟨hfs, fun ρ' a' w' E' hs st hg => fin ρ' a' w' E' hs st hg⟩
theorem noDefers {df : List ADefer} {h h' : AH} (hr : runDefers noCall df h = .ok h') : df = [] ∧ h' = h := by
  cases df with
  | nil =>
    have hr : R.ok h = .ok h' := hr
    cases hr; exact ⟨rfl, rfl⟩
  | cons d df => cases hr
theorem fn_callsD (hc : CallOk P X call) {f : FuncId} {a : AFn} {args : List AV} {h h' : AH} {v : AV} (hfn : FnOk P f a) (hr : runFn call noCall a args h = .ok (v, h')) {ρ : Rho} {w : World} {xs : List Value} (m : Mem P ρ h w) (hf : Free ρ h h') (hx : denL ρ args = some xs) (u : FrameMode) :
    (callFunc f xs.toArray).run P w = .ok (.enter f xs.toArray) w ∧ CallsD P f xs.toArray u w (fun e u' w' => u' = u ∧ Good P ρ h w v h' e w') := by
  obtain ⟨hle, h1⟩ := tst_eq.1 hr
  rw [natBle_eq, len_eq] at hle
  obtain ⟨fn, c, mask, hfun, hname, hbody, hnt, hcode, hres⟩ := hfn.ex
  rw [hnt] at hle
  refine ⟨callFunc_run hfun hname hbody _ _, ?_⟩
  obtain ⟨s, h2, h3⟩ := endFn_ok h1
  obtain ⟨vs, h4, h5, rfl⟩ := leave_ok h3
  obtain ⟨hdf, hh⟩ := noDefers h4
  subst hh
  rw [hcode] at h2
  refine callsD_of_wp hfun hbody (code_ok hc (draw_ok hc) coin_ok c ⟨P, fn.ntmps, mask, []⟩ rfl ρ ⟨[], argsTm args 0 .nil, h, []⟩ _ w _ ⟨env_start hx hle, m, trivial⟩ ?_)
  have fin : ∀ ρ' a' w' E', Step ρ h w ρ' s.hp w' → StOk P ρ' E' s a' w' → Grows ⟨P, fn.ntmps, mask, []⟩ [] E' s.l → a'.defers = [] ∧ ∃ v, (results fn a'.tmps).run P w' = .ok v w' ∧ Good P ρ h w (shutRes vs) s.hp (.returned v) w' := by
    intro ρ' a' w' E' hs st hg
    obtain ⟨x, g1, g2⟩ := results_run st.mem (hg.back st.env) hres h5
    refine ⟨?_, x, g2, ρ', x, rfl, hs, st.mem, g1⟩
    have := st.df
    rw [hdf] at this
    cases hq : a'.defers with
    | nil => rfl
    | cons d ds => rw [hq] at this; exact this.elim
  rcases h2 with h2 | h2
  · rw [h2]; exact ⟨hf, fun ρ' a' w' hs st hg => fin ρ' a' w' _ hs st hg⟩
  · rw [h2]; exact ⟨hf, fun ρ' a' w' E' hs st hg => fin ρ' a' w' E' hs st hg⟩
def ExtOk (P : Program) (X : Ext) : Prop := ∀ f g ih, X f = some g → CallOk P X ih → ∀ args h v h', g ih args h = .ok (v, h') → num h.nx ≤ num h'.nx ∧
  ∀ ρ w xs, Mem P ρ h w → Free ρ h h' → denL ρ args = some xs → ∀ (o : Oper) (a : Act) (next : Act → World → Prop) (Q : Exit → Act → World → Prop),
    (∀ ρ' w' x, Step ρ h w ρ' h' w' → Mem P ρ' h' w' → den ρ' v = some x → next (a.put o.dst x) w') → o.upon P a next Q ((callFunc f xs.toArray).run P w)
theorem callOneD_ok {tab : FuncId → Option AFn} {ih : CallH} (hc : CallOk P X ih) (ht : ∀ f a, tab f = some a → FnOk P f a) : DefOk P (callOneD tab X ih) := by
  intro f args h v h' hr
  unfold callOneD at hr
  cases hx : X f with
  | some g => rw [hx] at hr; cases hr
  | none =>
    rw [hx] at hr
    have hr := tagE_ok hr
    obtain ⟨a, h1, h2⟩ := bind_eq.1 hr
    have hfn := ht f a (ofOpt_eq.1 h1)
    exact ⟨runFn_mono hc.mono (fun df h h' hd => by rw [(noDefers hd).2]; exact Nat.le_refl _) hfn h2, fun ρ w xs m hf hxs u => fn_callsD hc hfn h2 m hf hxs u⟩
theorem callN_ok {tab : FuncId → Option AFn} (hX : ExtOk P X) (ht : ∀ f a, tab f = some a → FnOk P f a) : ∀ n, CallOk P X (callN tab X n)
  | 0 => ⟨fun f args h v h' hr => (by cases hr), fun f args h v h' hr => (by cases hr)⟩
  | n + 1 => by
    have ih := callN_ok hX ht n
    have hD := callOneD_ok ih ht
    have key : ∀ f args h v h', callN tab X (n + 1) f args h = .ok (v, h') → (∃ g, X f = some g ∧ g (callN tab X n) args h = .ok (v, h')) ∨ (∃ a, FnOk P f a ∧ runFn (callN tab X n) (callOneD tab X (callN tab X n)) a args h = .ok (v, h')) := by
      intro f args h v h' hr
      have hr : callOne tab X (callN tab X n) f args h = .ok (v, h') := hr
      unfold callOne at hr
      cases hx : X f with
      | some g => rw [hx] at hr; exact .inl ⟨g, rfl, tagE_ok hr⟩
      | none =>
        rw [hx] at hr
        obtain ⟨a, h1, h2⟩ := bind_eq.1 (tagE_ok hr)
        exact .inr ⟨a, ht f a (ofOpt_eq.1 h1), h2⟩
    refine ⟨fun f args h v h' hr ρ w xs m hf hxs o a next Q hn => ?_, fun f args h v h' hr => ?_⟩
    · rcases key f args h v h' hr with ⟨g, h1, h2⟩ | ⟨fa, h1, h2⟩
      · exact (hX f g _ h1 ih args h v h' h2).2 ρ w xs m hf hxs o a next Q hn
      · obtain ⟨c1, c2⟩ := fn_calls ih hD h1 h2 m hf hxs
        rw [c1, Oper.upon_enter]
        refine Calls.mono c2 fun e w' hg => ?_
        obtain ⟨ρ', x, rfl, hs, hm, hd⟩ := hg
        exact hn ρ' w' x hs hm hd
    · rcases key f args h v h' hr with ⟨g, h1, h2⟩ | ⟨fa, h1, h2⟩
      · exact (hX f g _ h1 ih args h v h' h2).1
      · exact runFn_mono ih.mono (fun df h h' hd => defers_mono hD hd) h1 h2
theorem calls_of_run {tab : FuncId → Option AFn} (hX : ExtOk P X) (ht : ∀ f a, tab f = some a → FnOk P f a) {n : Nat} {f : FuncId} (hXf : X f = none) {args : List AV} {h h' : AH} {v : AV} (hr : callN tab X n f args h = .ok (v, h')) {ρ : Rho} {w : World} {xs : List Value} (m : Mem P ρ h w) (hf : Free ρ h h') (hx : denL ρ args = some xs) :
    Calls P f xs.toArray w (Good P ρ h w v h') := by
  cases n with
  | zero => cases hr
  | succ n =>
    have ih := callN_ok hX ht n
    have hr : callOne tab X (callN tab X n) f args h = .ok (v, h') := hr
    unfold callOne at hr
    rw [hXf] at hr
    obtain ⟨a, h1, h2⟩ := bind_eq.1 (tagE_ok hr)
    exact (fn_calls ih (callOneD_ok ih ht) (ht f a (ofOpt_eq.1 h1)) h2 m hf hx).2
theorem tab_ok {l : List (Nat × AFn)} (hl : ∀ p, p ∈ l → FnOk P p.1 p.2) : ∀ f a, tabAt (tabOf l) f = some a → FnOk P f a := by
  intro f a h
  induction l with
  | nil => have h : Q.get (pathOf f) (.nil : Q AFn) = some a := h; simp at h
  | cons p l ih =>
    have h2 : Q.get (pathOf f) (Q.set (pathOf p.1) (some p.2) (tabOf l)) = some a := h
    clear h
    rw [Q.get_set] at h2
    split at h2
    · rename_i e
      have e1 := pathOf_inj e
      have e2 : p.2 = a := Option.some.inj h2
      rw [e1, ← e2]
      exact hl p (by simp)
    · exact ih (fun q hq => hl q (by simp [hq])) h2
end
end Go.AX
/- The abstract executor: memory at the entry of a call whose sentinels are laid; a contract. -/
namespace Go.AX
open Go.RowKit

noncomputable def sents (ev pt et base : Nat) : List (Nat × AV) → AH → AH
  | [], h => h
  | (g, s) :: l, h => sents ev pt et base l ((h.put (pathOf g) (.box ev true [.iface pt (.ptr (pathOf (base + g)) 0)])).put (pathOf (base + g)) (.box et true [s]))
theorem sents_get {ev pt et base : Nat} : ∀ (l : List (Nat × AV)) (h : AH) (p : Id) (o : AO), Q.get p (sents ev pt et base l h).tr = some o →
    Q.get p h.tr = some o ∨ ∃ g s, (g, s) ∈ l ∧ ((p = pathOf g ∧ o = .box ev true [.iface pt (.ptr (pathOf (base + g)) 0)]) ∨ (p = pathOf (base + g) ∧ o = .box et true [s]))
  | [], h, p, o, hp => .inl hp
  | (g, s) :: l, h, p, o, hp => by
    rcases sents_get l _ p o hp with h1 | ⟨g', s', h1, h2⟩
    · rw [get_put] at h1
      split at h1
      · rename_i e; cases h1; exact .inr ⟨g, s, by simp, .inr ⟨e, rfl⟩⟩
      · rw [get_put] at h1
        split at h1
        · rename_i e; cases h1; exact .inr ⟨g, s, by simp, .inl ⟨e, rfl⟩⟩
        · exact .inl h1
    · exact .inr ⟨g', s', by simp [h1], h2⟩
theorem sents_nx {ev pt et base : Nat} : ∀ (l : List (Nat × AV)) (h : AH), (sents ev pt et base l h).nx = h.nx
  | [], _ => rfl
  | (g, s) :: l, h => by
    show (sents ev pt et base l _).nx = _
    rw [sents_nx l]
    simp
noncomputable def rho0 (base n : Nat) (b o c : Nat → Nat) : Rho := fun p => if num p < base then some ⟨num p, 0, c (num p)⟩ else if num p < base + n then some ⟨b (num p - base), o (num p - base), 0⟩ else none
structure LaidOk (P : Program) (W : World) (n : Nat) (sg : Nat → Bool) (pt : TypeId) (b o : Nat → Nat) (s : Nat → Nat × Nat) : Prop where
  le : n ≤ P.globals.size
  glob : ∀ g, g < n → sg g = true → ∃ t z, W.heap[g]? = some (.cells #[.iface pt (.pointer (some ⟨b g, o g, none⟩))] t (z, z))
  sent : ∀ g, g < n → sg g = true → ∃ cs t z, W.heap[b g]? = some (.cells cs t (z, z)) ∧ cs[o g]? = some (.string (bytesOf (s g).1 (s g).2))
  dist : ∀ g g', g < n → g' < n → sg g = true → sg g' = true → g ≠ g' → b g ≠ b g' ∨ o g ≠ o g'
noncomputable def h00 (ev pt et base n : Nat) (sg : Nat → Bool) (s : Nat → Nat × Nat) : AH := sents ev pt et base (((List.range n).filter sg).map fun i => (i, .str (s i).1 (s i).2)) ⟨.nil, pathOf (base + n)⟩
theorem mem_laid {P : Program} {W : World} {n : Nat} {sg : Nat → Bool} {ev pt et : TypeId} {b o c : Nat → Nat} {s : Nat → Nat × Nat} (h : LaidOk P W n sg pt b o s) (hfar : ∀ g g', g < n → g' < n → sg g = true → sg g' = true → b g ≠ g') :
    Mem P (rho0 (P.globals.size + 1) n b o c) (h00 ev pt et (P.globals.size + 1) n sg s) W ∧ (∀ cb, ¬ Wr (rho0 (P.globals.size + 1) n b o c) (h00 ev pt et (P.globals.size + 1) n sg s) cb) := by
  have hle := h.le
  have r1 : ∀ g, g < n → rho0 (P.globals.size + 1) n b o c (pathOf g) = some ⟨g, 0, c g⟩ := fun g hg => by
    unfold rho0; rw [num_pathOf, if_pos (by omega)]
  have r2 : ∀ g, g < n → rho0 (P.globals.size + 1) n b o c (pathOf (P.globals.size + 1 + g)) = some ⟨b g, o g, 0⟩ := fun g hg => by
    unfold rho0
    rw [num_pathOf, if_neg (by omega), if_pos (by omega)]
    simp
  have get : ∀ p ob, Q.get p (h00 ev pt et (P.globals.size + 1) n sg s).tr = some ob → ∃ g, (g < n ∧ sg g = true) ∧ ((p = pathOf g ∧ ob = .box ev true [.iface pt (.ptr (pathOf (P.globals.size + 1 + g)) 0)]) ∨ (p = pathOf (P.globals.size + 1 + g) ∧ ob = .box et true [.str (s g).1 (s g).2])) := by
    intro p ob hp
    rcases sents_get _ _ p ob hp with h1 | ⟨g, v, h1, h2⟩
    · have h1 : Q.get p (.nil : Q AO) = some ob := h1
      simp at h1
    · obtain ⟨i, hi, he⟩ := List.mem_map.1 h1
      cases he
      rw [List.mem_filter] at hi
      exact ⟨_, ⟨by simpa using hi.1, hi.2⟩, h2⟩
  refine ⟨⟨fun p ob l hp hl => ?_, fun p p' ob ob' l l' hp hp' hl hl' hne => ?_, fun g hg => ⟨c g, ?_⟩, fun p ob hp => ?_⟩, fun cb ⟨p, ob, l, hp, hro, _, _⟩ => ?_⟩
  · obtain ⟨g, ⟨hg, hs⟩, ⟨rfl, rfl⟩ | ⟨rfl, rfl⟩⟩ := get p ob hp
    · rw [r1 g hg] at hl
      cases hl
      obtain ⟨t, z, h1⟩ := h.glob g hg hs
      refine ⟨#[.iface pt (.pointer (some ⟨b g, o g, none⟩))], t, z, h1, by simp, ⟨fun h => (by cases h), fun h => by simp at h⟩, fun i v hv => ?_⟩
      cases i with
      | zero =>
        simp at hv; subst hv
        refine ⟨by simp, rfl, .iface pt (.pointer (some ⟨b g, o g, none⟩)), by simp, ?_⟩
        simp only [den, r2 g hg]
        rfl
      | succ i => simp at hv
    · rw [r2 g hg] at hl
      cases hl
      obtain ⟨cs, t, z, h1, h2⟩ := h.sent g hg hs
      have hlt := (Array.getElem?_eq_some_iff.1 h2).1
      refine ⟨cs, t, z, h1, by simp; omega, ⟨fun h => (by cases h), fun h => by simp at h⟩, fun i v hv => ?_⟩
      cases i with
      | zero =>
        simp at hv; subst hv
        exact ⟨by simp, rfl, _, by simpa using h2, den_str _ _ _⟩
      | succ i => simp at hv
  · obtain ⟨g, ⟨hg, hs⟩, ⟨rfl, rfl⟩ | ⟨rfl, rfl⟩⟩ := get p ob hp <;> obtain ⟨g', ⟨hg', hs'⟩, ⟨rfl, rfl⟩ | ⟨rfl, rfl⟩⟩ := get p' ob' hp'
    · rw [r1 g hg] at hl; rw [r1 g' hg'] at hl'; cases hl; cases hl'
      exact .inl fun e => hne (by rw [show g = g' from e])
    · rw [r1 g hg] at hl; rw [r2 g' hg'] at hl'; cases hl; cases hl'
      exact .inl fun e => hfar g' g hg' hg hs' hs e.symm
    · rw [r2 g hg] at hl; rw [r1 g' hg'] at hl'; cases hl; cases hl'
      exact .inl (hfar g g' hg hg' hs hs')
    · rw [r2 g hg] at hl; rw [r2 g' hg'] at hl'; cases hl; cases hl'
      have hgg : g ≠ g' := fun e => hne (by rw [e])
      rcases h.dist g g' hg hg' hs hs' hgg with h1 | h1
      · exact .inl h1
      · exact .inr ⟨rfl, rfl, h1⟩
  · unfold rho0; rw [num_pathOf, if_pos hg]
  · unfold h00
    rw [sents_nx]
    show num p < num (pathOf _)
    rw [num_pathOf]
    obtain ⟨g, ⟨hg, _⟩, ⟨rfl, _⟩ | ⟨rfl, _⟩⟩ := get p ob hp <;> (rw [num_pathOf]; omega)
  · obtain ⟨g, hg, ⟨rfl, rfl⟩ | ⟨rfl, rfl⟩⟩ := get p ob hp <;> cases hro
theorem good_true {P : Program} {ρ : Rho} {h h' : AH} {w w' : World} {e : Ending} (hw : ∀ cb, ¬ Wr ρ h cb) (hg : Good P ρ h w (.bool true) h' e w') : e = .returned (.bool true) ∧ Below w.heap.size w w' := by
  obtain ⟨ρ', x, rfl, hs, _, hx⟩ := hg
  rw [den_bool] at hx
  cases hx
  exact ⟨rfl, hs.os, hs.tape, hs.output, hs.size, fun k hk => hs.frame k hk (hw k)⟩
def idExt : CallH → List AV → AH → R (AV × AH) := fun _ args h => match args with
  | [v] => .ok (v, h)
  | _ => .err [400]
theorem idExt_ok {P : Program} {f : FuncId} (hrun : ∀ x w, (callFunc f #[x]).run P w = .ok (.value x) w) (ih : CallH) (args : List AV) (h : AH) (v : AV) (h' : AH) (hr : idExt ih args h = .ok (v, h')) : num h.nx ≤ num h'.nx ∧
    ∀ ρ w xs, Mem P ρ h w → Free ρ h h' → denL ρ args = some xs → ∀ (o : Oper) (a : Act) (next : Act → World → Prop) (Q : Exit → Act → World → Prop),
      (∀ ρ' w' x, Step ρ h w ρ' h' w' → Mem P ρ' h' w' → den ρ' v = some x → next (a.put o.dst x) w') → o.upon P a next Q ((callFunc f xs.toArray).run P w) := by
  unfold idExt at hr
  split at hr
  · cases hr
    refine ⟨Nat.le_refl _, fun ρ w xs m _ hx o a next Q hn => ?_⟩
    obtain ⟨y, ys, h1, h2, rfl⟩ := denL_cons_eq.1 hx
    cases h2
    rw [show ([y] : List Value).toArray = #[y] from rfl, hrun, Oper.upon_value]
    exact hn ρ w y (Step.refl ρ _ w) m h1
  · cases hr
end Go.AX
/- The abstract executor: the listed sentinels lie in memory as the abstract memory at entry has them. -/
namespace Go.AX

theorem laid_segs {P : Program} {w : World} : ∀ {laid : List (String × DataW Unit)} {ps : List MemPlace}, DataW.LaidVars P w laid ps → ∃ segs : List (List MemPlace), ps = segs.flatten ∧ ∀ (i : Nat) (n : String) (d : DataW Unit), laid[i]? = some (n, d) →
    ∃ g t cs fuel p, P.globalNamed n = some g ∧ (P.globals[g]?).map (·.type) = some t ∧ w.var? P n = some cs ∧ DataW.trod (fun _ => ()) P w 0 (fun _ => true) false fuel t cs.toList = some (d, p) ∧ segs[i]? = some (MemPlace.row ⟨g, 0, none⟩ cs.size ++ p)
  | [], ps, h => ⟨[], h, fun i n d hi => by simp at hi⟩
  | (n0, d0) :: r, ps, h => by
    obtain ⟨g, t, cs, fuel, p, q, h1, h2, h3, h4, h5, h6⟩ := h
    obtain ⟨segs, e1, e2⟩ := laid_segs h5
    refine ⟨(MemPlace.row ⟨g, 0, none⟩ cs.size ++ p) :: segs, by rw [h6, e1]; simp, fun i n d hi => ?_⟩
    cases i with
    | zero =>
      simp at hi
      obtain ⟨rfl, rfl⟩ := hi
      exact ⟨g, t, cs, fuel, p, h1, h2, h3, h4, rfl⟩
    | succ i => exact e2 i n d (by simpa using hi)
theorem flatten_apart {α : Type} : ∀ {l : List (List α)} {i j : Nat} {s t : List α} {x : α}, l.flatten.Nodup → l[i]? = some s → l[j]? = some t → i ≠ j → x ∈ s → x ∈ t → False
  | [], i, j, s, t, x, _, hi, _, _, _, _ => by simp at hi
  | a :: l, i, j, s, t, x, hn, hi, hj, hne, hs, ht => by
    rw [List.flatten_cons, List.nodup_append] at hn
    obtain ⟨_, n2, n3⟩ := hn
    cases i with
    | zero =>
      simp at hi; subst hi
      cases j with
      | zero => exact hne rfl
      | succ j => exact n3 x hs x (List.mem_flatten.2 ⟨t, List.mem_of_getElem? (by simpa using hj), ht⟩) rfl
    | succ i =>
      cases j with
      | zero =>
        simp at hj; subst hj
        exact n3 x ht x (List.mem_flatten.2 ⟨s, List.mem_of_getElem? (by simpa using hi), hs⟩) rfl
      | succ j => exact flatten_apart n2 (by simpa using hi) (by simpa using hj) (fun e => hne (by rw [e])) hs ht
structure SentsAre (P : Program) (laid : List (String × DataW Unit)) (n : Nat) (sg : Nat → Bool) (pt : TypeId) (idx : Nat → Nat) (txt : Nat → List UInt8) : Prop where
  le : n ≤ P.globals.size
  at_ : ∀ g, g < n → sg g = true → ∃ nm, laid[idx g]? = some (nm, .iface "*errors.errorString" (.ptr (.agg [.lit (.string (txt g))]))) ∧ P.globalNamed nm = some g
  inj : ∀ g g', g < n → g' < n → sg g = true → sg g' = true → idx g = idx g' → g = g'
  ty : ∃ ti te ts ms f, (∀ g, g < n → sg g = true → (P.globals[g]?).map (·.type) = some ti) ∧ P.underlying ti = some (.interface ms) ∧ (∀ u, P.typeName? 3 u = some "*errors.errorString" → u = pt) ∧ P.underlying pt = some (.pointer te) ∧ P.underlying te = some (.struct #[f]) ∧ f.type = ts ∧ f.offset = 0 ∧ P.underlying ts = some .string ∧ P.cellsOf te = 1 ∧ P.cellsOf ts = 1
theorem laidOk_of {P : Program} {W : World} {laid : List (String × DataW Unit)} {n : Nat} {sg : Nat → Bool} {pt : TypeId} {idx : Nat → Nat} {txt : Nat → List UInt8} (hs : SentsAre P laid n sg pt idx txt) (h : laidMet P laid W) :
    ∃ b o, LaidOk P W n sg pt b o (fun g => ((txt g).length, encL (txt g) 0)) ∧ ∀ g g', g < n → g' < n → sg g = true → sg g' = true → b g ≠ g' := by
  obtain ⟨ps, hv, hnd, hrows⟩ := h
  obtain ⟨segs, rfl, hseg⟩ := laid_segs hv
  obtain ⟨ti, te, ts, ms, f, t1, t2, t3, t4, t5, t6, t7, t8, t9, t10⟩ := hs.ty
  have key : ∀ g, (g < n ∧ sg g = true) → ∃ a : Nat × Nat, (∃ t, W.heap[g]? = some (.cells #[.iface pt (.pointer (some ⟨a.1, a.2, none⟩))] t (0, 0))) ∧ (∃ cs t, W.heap[a.1]? = some (.cells cs t (0, 0)) ∧ cs[a.2]? = some (.string (bytesOf (txt g).length (encL (txt g) 0)))) ∧
      ∃ sg, segs[idx g]? = some sg ∧ MemPlace.cell a.1 a.2 ∈ sg := by
    intro g hg
    obtain ⟨nm, h1, h2⟩ := hs.at_ g hg.1 hg.2
    obtain ⟨g', t, cs, fuel, p, e1, e2, e3, e4, e5⟩ := hseg _ _ _ h1
    rw [h2] at e1
    cases e1
    rw [t1 g hg.1 hg.2] at e2
    cases e2
    have hmem : ∀ x, x ∈ MemPlace.row ⟨g, 0, none⟩ cs.size ++ p → x ∈ segs.flatten := fun x hx => List.mem_flatten.2 ⟨_, List.mem_of_getElem? e5, hx⟩
    have hblk : ∃ t z, W.heap[g]? = some (.cells cs t z) := by
      unfold World.var? at e3
      rw [h2] at e3
      simp only [Option.bind_some] at e3
      split at e3
      · rename_i c t z hb; cases e3; exact ⟨t, z, hb⟩
      · cases e3
    obtain ⟨tg, z, hb⟩ := hblk
    have hok : ∀ u v, cs.toList = [.iface u v] → Value.okWide P W .any 0 u v := by
      intro u v hcs
      have hsz : cs.size = 1 := by rw [← Array.length_toList, hcs]; rfl
      refine (hrows g 0 (hmem _ (List.mem_append_left _ (by rw [hsz]; simp [MemPlace.row])))).2 u v ?_
      rw [cell_of_block hb, ← Array.getElem?_toList, hcs]; rfl
    obtain ⟨a, s, f1, f2, f3, f4, f5⟩ := Go.errorString_of_trod t2 t3 t4 t5 t6 t7 t8 t9 t10 e4 hok
    obtain ⟨bb, oo, sp⟩ := a
    have hsp : sp = none := by
      cases sp with
      | none => rfl
      | some x =>
        unfold World.cell? at f2
        split at f2 <;> simp at f2
    subst hsp
    have hcs : cs = #[.iface pt (.pointer (some ⟨bb, oo, none⟩))] := by
      apply Array.toList_inj.1; rw [f1]
    have hin : MemPlace.cell bb oo ∈ MemPlace.row ⟨g, 0, none⟩ cs.size ++ p := List.mem_append_right _ (by rw [f5]; simp [MemPlace.row])
    have hin0 : MemPlace.cell g 0 ∈ MemPlace.row ⟨g, 0, none⟩ cs.size ++ p := List.mem_append_left _ (by rw [hcs]; simp [MemPlace.row])
    obtain ⟨c2, t2', hb2⟩ := (hrows bb oo (hmem _ hin)).1
    obtain ⟨c3, t3', hb3⟩ := (hrows g 0 (hmem _ hin0)).1
    rw [hb] at hb3
    cases hb3
    refine ⟨(bb, oo), ⟨tg, by rw [hb, hcs]⟩, ⟨c2, t2', hb2, ?_⟩, _, e5, hin⟩
    rw [cell_of_block hb2] at f2
    rw [f2]
    congr 2
    have : s.data.toList = bytesL (txt g).length (encL (txt g) 0) := by rw [f3, bytesL_encL]
    apply ByteArray.ext
    unfold bytesOf
    apply Array.toList_inj.1
    rw [this]
  let b : Nat → Nat := fun g => if h : (g < n ∧ sg g = true) then (Classical.choose (key g h)).1 else 0
  let o : Nat → Nat := fun g => if h : (g < n ∧ sg g = true) then (Classical.choose (key g h)).2 else 0
  have spec : ∀ g, (g < n ∧ sg g = true) → (∃ t, W.heap[g]? = some (.cells #[.iface pt (.pointer (some ⟨b g, o g, none⟩))] t (0, 0))) ∧ (∃ cs t, W.heap[b g]? = some (.cells cs t (0, 0)) ∧ cs[o g]? = some (.string (bytesOf (txt g).length (encL (txt g) 0)))) ∧
      ∃ sg, segs[idx g]? = some sg ∧ MemPlace.cell (b g) (o g) ∈ sg := by
    intro g hg
    have := Classical.choose_spec (key g hg)
    simp only [b, o, dif_pos hg]
    exact this
  refine ⟨b, o, ⟨hs.le, fun g hg hq => ?_, fun g hg hq => ?_, fun g g' hg hg' hq hq' hne => ?_⟩, fun g g' hg hg' hq hq' e => ?_⟩
  · obtain ⟨t, h1⟩ := (spec g ⟨hg, hq⟩).1; exact ⟨t, 0, h1⟩
  · obtain ⟨cs, t, h1, h2⟩ := (spec g ⟨hg, hq⟩).2.1; exact ⟨cs, t, 0, h1, h2⟩
  · obtain ⟨sg, h1, h2⟩ := (spec g ⟨hg, hq⟩).2.2
    obtain ⟨sg', h1', h2'⟩ := (spec g' ⟨hg', hq'⟩).2.2
    by_cases e : b g = b g'
    · refine .inr fun e' => ?_
      rw [e, e'] at h2
      exact flatten_apart hnd h1 h1' (fun e => hne (hs.inj g g' hg hg' hq hq' e)) h2 h2'
    · exact .inl e
  · obtain ⟨cs, t, h1, h2⟩ := (spec g ⟨hg, hq⟩).2.1
    obtain ⟨t', h3⟩ := (spec g' ⟨hg', hq'⟩).1
    rw [e, h3] at h1
    cases h1
    have hlt := (Array.getElem?_eq_some_iff.1 h2).1
    have h0 : o g = 0 := by simp at hlt; omega
    rw [h0] at h2
    cases h2
end Go.AX
/- The abstract executor: operations that only look: the world stands. -/
namespace Go.AX
def OpQuiet : OpK → Prop
  | .pur _ => True
  | .rd _ => True
  | _ => False
def AOper.Quiet : AOper → Prop
  | .op _ k => OpQuiet k
  | .grd _ _ _ k => OpQuiet k
  | .dfr _ _ => False
section
variable {P : Program} {X : Ext} {call : CallH}
theorem put_other (a : Act) (d : Option Tmp) (x : Value) (t : Nat) (h : d ≠ some t) : (a.put d x).tmps[t]? = a.tmps[t]? := by
  cases d with
  | none => rfl
  | some d =>
    show (a.tmps.setIfInBounds d x)[t]? = _
    rw [Array.getElem?_setIfInBounds, if_neg (fun e => h (by rw [e]))]
def NextQ (P : Program) (ρ : Rho) (h : AH) (w : World) (d : Option Tmp) (a : Act) (E1 : CE) (K : K) (s : St) (df : List ADefer) (next : Act → World → Prop) : Prop :=
  ∀ a1 l1 tm1, StOk P ρ E1 ⟨l1, tm1, h, df⟩ a1 w → K l1 tm1 h df = .norm s → (∀ t, d ≠ some t → a1.tmps[t]? = a.tmps[t]?) → next a1 w
theorem nextQ_put {ρ : Rho} {h : AH} {w : World} {E E1 : CE} {l : List AV} {tm : Q AV} {df : List ADefer} {a : Act} {K : K} {s : St} {d : Option Tmp} {dd : Dst} {v : AV} {x : Value} {next : Act → World → Prop}
    (hd : E.dst d = .ok (dd, E1)) (st : StOk P ρ E ⟨l, tm, h, df⟩ a w) (hx : den ρ v = some x) (hr : putK dd K v l tm h df = .norm s) (hn : NextQ P ρ h w d a E1 K s df next) : next (a.put d x) w := by
  rw [putK_eq] at hr
  obtain ⟨e1, _⟩ := put_env hd st.env hx
  exact hn _ _ _ ⟨e1, st.mem, by rw [put_defers]; exact st.df⟩ hr fun t ht => put_other a d x t ht
theorem kop_quiet {o : Oper} {E E1 : CE} {k : OpK} {dd : Dst} {ρ : Rho} {l : List AV} {tm : Q AV} {h : AH} {df : List ADefer} {a : Act} {w : World} {K : K} {s : St} {next : Act → World → Prop} {Qx : Exit → Act → World → Prop} (hq : OpQuiet k) (ho : KOk P X o E k) (hP : E.P = P)
    (hd : E.dst o.dst = .ok (dd, E1)) (st : StOk P ρ E ⟨l, tm, h, df⟩ a w) (hr : opK call dd k K l tm h df = .norm s) (hn : NextQ P ρ h w o.dst a E1 K s df next) : o.wp P a w next Qx := by
  have hop : OpdsOk ρ E l tm a.eval o := fun x _ => opd_ok hP st.mem st.env x
  cases k with
  | pur f =>
    rw [opK_pur] at hr
    obtain ⟨v, h1, h2⟩ := rec_norm hr
    obtain ⟨x, g1, g2⟩ := ho ρ l tm a.eval w v hop h1
    show Oper.upon P o a next Qx _
    rw [g2, Oper.upon_value]
    exact nextQ_put hd st g1 h2 hn
  | rd f =>
    rw [opK_rd] at hr
    obtain ⟨v, h1, h2⟩ := rec_norm hr
    obtain ⟨x, g1, g2⟩ := ho ρ l tm h a.eval w v st.mem hop h1
    show Oper.upon P o a next Qx _
    rw [g2, Oper.upon_value]
    exact nextQ_put hd st g1 h2 hn
  | alc f => exact hq.elim
  | mem f => exact hq.elim
theorem oper_quiet {o : Oper} {E E1 : CE} {ops : Array Oper} {ao : AOper} {ρ : Rho} {l : List AV} {tm : Q AV} {h : AH} {df : List ADefer} {a : Act} {w : World} {K : K} {s : St} {next : Act → World → Prop} {Qx : Exit → Act → World → Prop} {i : Nat} (hq : ao.Quiet) (hP : E.P = P) (hi : ops[i]? = some o)
    (hco : E.oper ops o = .ok (ao, E1)) (st : StOk P ρ E ⟨l, tm, h, df⟩ a w) (hr : operK call ao K l tm h df = .norm s) (hn : NextQ P ρ h w o.dst a E1 K s df next) : wpOp P ops Qx i next a w := by
  unfold wpOp
  rw [hi]
  simp only
  rcases oper_compiled (X := fun _ => none) hP hco with ⟨f, q, c, _x0, hop, hcal, hg, hdst, _hf0, hq', rfl, rfl⟩ | ⟨k, dd, hk, _, hd, ⟨hg, rfl⟩ | ⟨j, want, t, g, hg, ht, hgo, rfl⟩⟩
  · exact hq.elim
  · have hw : Region.wanted o (yielded ops a.tmps) = true := by simp [Region.wanted, hg]
    rw [if_pos hw]
    exact .inl (kop_quiet hq hk hP hd st hr hn)
  · obtain ⟨v, h1, h2⟩ := rec_norm hr
    rw [wanted_of hP st.mem st.env hg ht hgo h1]
    rw [bsel_eq] at h2
    split at h2
    · rename_i hw
      rw [if_pos hw]
      exact .inl (kop_quiet hq hk hP hd st h2 hn)
    · rename_i hw
      rw [if_neg hw]
      exact nextQ_put hd st (den_undef ρ) h2 hn
theorem opers_quiet {ops : Array Oper} {Qx : Exit → Act → World → Prop} {rest : List Nat} : ∀ (os : List Oper) (i : Nat) (E E' : CE) (as : List AOper), (∀ j o, os[j]? = some o → ops[i + j]? = some o) → E.opers ops os = .ok (as, E') → E.P = P → (∀ x ∈ as, x.Quiet) →
    ∀ ρ l tm h df a w s, StOk P ρ E ⟨l, tm, h, df⟩ a w → opsK call as l tm h df = .norm s →
      (∀ a', s.hp = h → StOk P ρ E' s a' w → (∀ t, (∀ o ∈ os, o.dst ≠ some t) → a'.tmps[t]? = a.tmps[t]?) → wpOps P ops Qx rest a' w) → wpOps P ops Qx (List.range' i os.length ++ rest) a w
  | [], i, E, E', as, _, hco, hP, _, ρ, l, tm, h, df, a, w, s, st, hr, hq => by
    have hco : R.ok (([] : List AOper), E) = .ok (as, E') := hco
    cases hco
    have hr : CR.norm ⟨l, tm, h, df⟩ = .norm s := hr
    cases hr
    exact hq a rfl st fun _ _ => rfl
  | o :: os, i, E, E', as, hin, hco, hP, hqu, ρ, l, tm, h, df, a, w, s, st, hr, hq => by
    rw [opers_cons] at hco
    obtain ⟨⟨ao, E1⟩, h1, h2⟩ := bind_eq.1 hco
    obtain ⟨⟨as', E2⟩, h3, h4⟩ := bind_eq.1 h2
    cases h4
    rw [opsK_cons] at hr
    show wpOps P ops Qx (i :: (List.range' (i + 1) os.length ++ rest)) a w
    rw [wpOps_cons]
    refine oper_quiet (hqu ao (by simp)) hP (by have := hin 0 o rfl; simpa using this) h1 st hr fun a1 l1 tm1 st1 hk hsame => ?_
    exact opers_quiet os (i + 1) E1 _ as' (fun j o' hj => by have := hin (j + 1) o' (by simpa using hj); rw [Nat.add_assoc, Nat.add_comm 1 j]; exact this) h3 ((oper_prog h1).trans hP) (fun x hx => hqu x (by simp [hx])) ρ l1 tm1 h df a1 w s st1 hk
      fun a' hh st' hs' => hq a' hh st' fun t ht => by rw [hs' t fun o' ho' => ht o' (by simp [ho']), hsame t (ht o (by simp))]
end
theorem Mem.grown {P : Program} {ρ : Rho} {h : AH} {w w' : World} (m : Mem P ρ h w) (ho : w'.os = w.os) (ht : w'.tape = w.tape) (hu : w'.output = w.output) (hs : w.heap.size ≤ w'.heap.size) (hb : ∀ k, k < w.heap.size → w'.heap[k]? = w.heap[k]?) : Mem P ρ h w' ∧ Step ρ h w ρ h w' :=
  ⟨⟨fun b o l h1 h2 => ObjOk.mono (Rho.le_refl _) (hb l.cb (m.obj b o l h1 h2).lt) (m.obj b o l h1 h2), m.apart, m.glob, m.wf⟩,
   ⟨Rho.le_refl _, fun _ hx => .inl hx, Nat.le_refl _, ho, ht, hu, hs, fun cb hcb _ => hb cb hcb, fun _ h => .inl h, fun _ h => .inl h, fun _ _ _ => rfl⟩⟩
end Go.AX
/- The abstract executor: steps taken by hand. -/
namespace Go.AX
section
variable {call : CallH} {K : K} {l : List AV} {tm : Q AV} {h : AH} {df : List ADefer} {Φ : St → Prop} {p : Id} {v : AV}
theorem ex_end (hΦ : Φ ⟨l, tm, h, df⟩) : ∃ s, opsK call [] l tm h df = .norm s ∧ Φ s := ⟨_, rfl, hΦ⟩
theorem ex_pur {f : Opd} {as : List AOper} (h1 : f l tm = .ok v) (h2 : ∃ s, opsK call as l (Q.set p (some v) tm) h df = .norm s ∧ Φ s) : ∃ s, opsK call (.op (.slot p) (.pur f) :: as) l tm h df = .norm s ∧ Φ s := by
  rw [opsK_cons]
  show ∃ s, opK call (.slot p) (.pur f) (opsK call as) l tm h df = .norm s ∧ Φ s
  rw [opK_pur, h1]
  exact h2
theorem ex_rd {f : List AV → Q AV → AH → R AV} {as : List AOper} (h1 : f l tm h = .ok v) (h2 : ∃ s, opsK call as l (Q.set p (some v) tm) h df = .norm s ∧ Φ s) : ∃ s, opsK call (.op (.slot p) (.rd f) :: as) l tm h df = .norm s ∧ Φ s := by
  rw [opsK_cons]
  show ∃ s, opK call (.slot p) (.rd f) (opsK call as) l tm h df = .norm s ∧ Φ s
  rw [opK_rd, h1]
  exact h2
theorem ex_off {g : Opd} {want : Bool} {k : OpK} {as : List AOper} {u : AV} (h0 : g l tm = .ok u) (hw : wantB want u = false) (h2 : ∃ s, opsK call as l (Q.set p (some .undef) tm) h df = .norm s ∧ Φ s) : ∃ s, opsK call (.grd g want (.slot p) k :: as) l tm h df = .norm s ∧ Φ s := by
  rw [opsK_cons]
  show ∃ s, grdK call g want (.slot p) k (opsK call as) l tm h df = .norm s ∧ Φ s
  unfold grdK
  rw [h0]
  show ∃ s, bsel (wantB want u) _ _ = CR.norm s ∧ Φ s
  rw [hw]
  exact h2
theorem ex_on {g : Opd} {want : Bool} {k : OpK} {as : List AOper} {u : AV} (h0 : g l tm = .ok u) (hw : wantB want u = true) (h2 : ∃ s, opsK call (.op (.slot p) k :: as) l tm h df = .norm s ∧ Φ s) : ∃ s, opsK call (.grd g want (.slot p) k :: as) l tm h df = .norm s ∧ Φ s := by
  rw [opsK_cons]
  show ∃ s, grdK call g want (.slot p) k (opsK call as) l tm h df = .norm s ∧ Φ s
  unfold grdK
  rw [h0]
  show ∃ s, bsel (wantB want u) _ _ = CR.norm s ∧ Φ s
  rw [hw]
  exact h2
theorem T_same : T p l (Q.set p (some v) tm) = .ok v := by
  unfold T Q.at
  rw [Q.get_set, if_pos rfl]; rfl
theorem T_other {q : Id} (h : q ≠ p) : T q l (Q.set p (some v) tm) = T q l tm := by
  unfold T Q.at
  rw [Q.get_set, if_neg h]
end
end Go.AX
/- The abstract executor: a region that only looks, its abstract run taken by hand. -/
namespace Go.AX
theorem quiet_region {P : Program} {E : CE} {ops : Array Oper} {as : List AOper} {id : Nat} {ρ : Rho} {tm : Q AV} {h : AH} {a : Act} {w : World} {Φ : St → Prop} {Qx : Exit → Act → World → Prop} {call : CallH} (hco : E.opers ops ops.toList = .ok (as, E)) (hP : E.P = P) (hq : ∀ x ∈ as, x.Quiet)
    (st : StOk P ρ E ⟨[], tm, h, []⟩ a w) (hr : ∃ s, opsK call as [] tm h [] = .norm s ∧ Φ s)
    (hQ : ∀ a' s, Φ s → s.hp = h → StOk P ρ E s a' w → (∀ t, (∀ o ∈ ops.toList, o.dst ≠ some t) → a'.tmps[t]? = a.tmps[t]?) → Qx .normal a' w) : (Code.region id ops false).wp P Qx a w := by
  obtain ⟨s, h1, h2⟩ := hr
  refine wp_region ?_
  rw [List.range_eq_range']
  have := opers_quiet (P := P) (ops := ops) (Qx := Qx) (rest := []) ops.toList 0 E E as (fun j o hj => by rw [Nat.zero_add, ← Array.getElem?_toList]; exact hj) hco hP hq ρ [] tm h [] a w s st h1 fun a' hh st' hs => hQ a' s h2 hh st' hs
  rw [Array.length_toList, List.append_nil] at this
  exact this
theorem quiet_then {P : Program} {E : CE} {ops : Array Oper} {as : List AOper} {id : Nat} {ρ : Rho} {tm : Q AV} {h : AH} {a : Act} {w : World} {Φ : St → Prop} {Qx : Exit → Act → World → Prop} {call : CallH} (n : Nat) (hn : ops.size = n + 1) (hco : E.opers ops (ops.toList.take n) = .ok (as, E)) (hP : E.P = P) (hq : ∀ x ∈ as, x.Quiet)
    (st : StOk P ρ E ⟨[], tm, h, []⟩ a w) (hr : ∃ s, opsK call as [] tm h [] = .norm s ∧ Φ s)
    (hQ : ∀ a' s, Φ s → s.hp = h → StOk P ρ E s a' w → (∀ t, (∀ o ∈ ops.toList.take n, o.dst ≠ some t) → a'.tmps[t]? = a.tmps[t]?) → wpOp P ops Qx n (Qx .normal) a' w) : (Code.region id ops false).wp P Qx a w := by
  obtain ⟨s, h1, h2⟩ := hr
  refine wp_region ?_
  have hl : (ops.toList.take n).length = n := by rw [List.length_take, Array.length_toList]; omega
  have := opers_quiet (P := P) (ops := ops) (Qx := Qx) (rest := [n]) (ops.toList.take n) 0 E E as (fun j o hj => by
    have hlt := (List.getElem?_eq_some_iff.1 hj).1
    rw [List.getElem?_take_of_lt (by omega)] at hj
    rw [Nat.zero_add, ← Array.getElem?_toList]; exact hj) hco hP hq ρ [] tm h [] a w s st h1 fun a' hh st' hs => by
      rw [wpOps_cons]
      exact hQ a' s h2 hh st' hs
  rw [hl] at this
  rw [hn, List.range_eq_range', List.range'_concat]
  simpa using this
theorem wpOp_plain {P : Program} {ops : Array Oper} {o : Oper} {n : Nat} {Qx : Exit → Act → World → Prop} {K : Act → World → Prop} {a : Act} {w : World} (ho : ops[n]? = some o) (hg : o.guard = none) {v : Value} {w' : World} (hrun : (execOp a.eval o).run P w = .ok (.value v) w') (h : K (a.put o.dst v) w') : wpOp P ops Qx n K a w := by
  unfold wpOp
  rw [ho]
  simp only
  have hw : Region.wanted o (yielded ops a.tmps) = true := by simp [Region.wanted, hg]
  rw [if_pos hw]
  refine .inl ?_
  show Oper.upon P o a K Qx _
  rw [hrun, Oper.upon_value]
  exact h
end Go.AX
/- The closure that asks whether a group is ready: its pieces, run by hand. -/
namespace Go.AX
noncomputable def pp (n : Nat) : Id := pathOf n
theorem pp_ne {m n : Nat} (h : m ≠ n) : pathOf m ≠ pathOf n := fun e => h (pathOf_inj e)
noncomputable def zero64 : AV := .int .i64 (.ofNat 0)
noncomputable def as4 : List AOper := [.op (.slot (pathOf 15)) (.rd (load1F (T (pathOf 2)))), .op (.slot (pathOf 16)) (.pur (T (pathOf 5))), .op (.slot (pathOf 17)) (.rd (r2 (lookV keyI zero64) (T (pathOf 15)) (T (pathOf 16)))),
  .op (.slot (pathOf 18)) (.pur (b2 (intV eqI) (T (pathOf 17)) (C zero64))), .op (.slot (pathOf 19)) (.pur (T (pathOf 18))),
  .grd (T (pathOf 19)) true (.slot (pathOf 20)) (.rd (load1F (T (pathOf 1)))), .grd (T (pathOf 19)) true (.slot (pathOf 21)) (.pur (T (pathOf 5))), .grd (T (pathOf 19)) true (.slot (pathOf 22)) (.pur (b2 (indexAddrSV 1) (T (pathOf 20)) (T (pathOf 21)))),
  .grd (T (pathOf 19)) true (.slot (pathOf 23)) (.rd (load1F (T (pathOf 22)))), .grd (T (pathOf 19)) true (.slot (pathOf 24)) (.pur (T (pathOf 0))), .grd (T (pathOf 19)) true (.slot (pathOf 25)) (.rd (r2 (lookV keyI zero64) (T (pathOf 23)) (T (pathOf 24)))),
  .grd (T (pathOf 19)) true (.slot (pathOf 26)) (.pur (b2 (intV eqI) (T (pathOf 25)) (C zero64))), .op (.slot (pathOf 27)) (.pur (pickF (T (pathOf 19)) (T (pathOf 26)) (C (.bool false))))]
def Left (lo hi : Nat) (tm : Q AV) (h : AH) (s : St) : Prop := s.l = [] ∧ s.hp = h ∧ s.df = [] ∧ ∀ q, ¬ (lo ≤ q ∧ q ≤ hi) → T (pathOf q) [] s.tm = T (pathOf q) [] tm
theorem T_keep {l : List AV} {m n : Nat} {v : AV} {tm : Q AV} {r : R AV} (h : m ≠ n) (h2 : T (pathOf m) l tm = r) : T (pathOf m) l (Q.set (pathOf n) (some v) tm) = r := by rw [T_other (pp_ne h)]; exact h2
theorem load1F_eq {x : Opd} {l : List AV} {tm : Q AV} {h : AH} {b : Id} {o : Nat} {v : AV} (hx : x l tm = .ok (.ptr b o)) (hv : (h.obj b).bind (load1O o) = .ok v) : load1F x l tm h = .ok v := by
  unfold load1F
  rw [hx]
  exact hv
theorem r2_eq {f : AH → AV → AV → R AV} {x y : Opd} {l : List AV} {tm : Q AV} {h : AH} {a b v : AV} (hx : x l tm = .ok a) (hy : y l tm = .ok b) (hv : f h a b = .ok v) : r2 f x y l tm h = .ok v := by
  unfold r2
  rw [hx, bind_ok, hy]
  exact hv
theorem b2_eq {f : AV → AV → R AV} {x y : Opd} {l : List AV} {tm : Q AV} {a b v : AV} (hx : x l tm = .ok a) (hy : y l tm = .ok b) (hv : f a b = .ok v) : b2 f x y l tm = .ok v := by
  unfold b2
  rw [hx, bind_ok, hy]
  exact hv
theorem eq0 (n : Int) : intV eqI (.int .i64 n) zero64 = .ok (.bool (intEq n 0)) := rfl
section
variable {call : CallH} {tm : Q AV} {h : AH} {b1 b2 : Id} {o1 o2 : Nat} {k i n n' : Int} {done needs m : AV} {bN : Id} {oN : Nat}
theorem piece4_no (h2 : T (pathOf 2) [] tm = .ok (.ptr b2 o2)) (h5 : T (pathOf 5) [] tm = .ok (.int .i64 k)) (hd : (h.obj b2).bind (load1O o2) = .ok done) (hl : lookV keyI zero64 h done (.int .i64 k) = .ok (.int .i64 n)) (hn : intEq n 0 = false) :
    ∃ s, opsK call as4 [] tm h [] = .norm s ∧ (Left 15 27 tm h s ∧ T (pathOf 27) [] s.tm = .ok (.bool false)) := by
  unfold as4
  refine ex_rd (load1F_eq h2 hd) ?_
  refine ex_pur (T_keep (by decide) h5) ?_
  refine ex_rd (r2_eq (T_keep (by decide) T_same) T_same hl) ?_
  refine ex_pur (b2_eq T_same rfl (eq0 n)) ?_
  rw [hn]
  refine ex_pur T_same ?_
  refine ex_off T_same rfl ?_
  refine ex_off (T_keep (by decide) T_same) rfl ?_
  refine ex_off (T_keep (by decide) (T_keep (by decide) T_same)) rfl ?_
  refine ex_off (T_keep (by decide) (T_keep (by decide) (T_keep (by decide) T_same))) rfl ?_
  refine ex_off (T_keep (by decide) (T_keep (by decide) (T_keep (by decide) (T_keep (by decide) T_same)))) rfl ?_
  refine ex_off (T_keep (by decide) (T_keep (by decide) (T_keep (by decide) (T_keep (by decide) (T_keep (by decide) T_same))))) rfl ?_
  refine ex_off (T_keep (by decide) (T_keep (by decide) (T_keep (by decide) (T_keep (by decide) (T_keep (by decide) (T_keep (by decide) T_same)))))) rfl ?_
  refine ex_pur (v := .bool false) ?_ ?_
  · unfold pickF
    rw [T_keep (by decide) (T_keep (by decide) (T_keep (by decide) (T_keep (by decide) (T_keep (by decide) (T_keep (by decide) (T_keep (by decide) T_same))))))]
    rfl
  · refine ex_end ⟨⟨rfl, rfl, rfl, fun q hq => ?_⟩, T_same⟩
    simp only
    repeat (rw [T_other (pp_ne (by omega))])
theorem piece4_yes (h0 : T (pathOf 0) [] tm = .ok (.int .i64 i)) (h1 : T (pathOf 1) [] tm = .ok (.ptr b1 o1)) (h2 : T (pathOf 2) [] tm = .ok (.ptr b2 o2)) (h5 : T (pathOf 5) [] tm = .ok (.int .i64 k)) (hd : (h.obj b2).bind (load1O o2) = .ok done) (hl : lookV keyI zero64 h done (.int .i64 k) = .ok (.int .i64 n)) (hn : intEq n 0 = true)
    (hne : (h.obj b1).bind (load1O o1) = .ok needs) (hix : indexAddrSV 1 needs (.int .i64 k) = .ok (.ptr bN oN)) (hm : (h.obj bN).bind (load1O oN) = .ok m) (hl2 : lookV keyI zero64 h m (.int .i64 i) = .ok (.int .i64 n')) :
    ∃ s, opsK call as4 [] tm h [] = .norm s ∧ (Left 15 27 tm h s ∧ T (pathOf 27) [] s.tm = .ok (.bool (intEq n' 0))) := by
  unfold as4
  refine ex_rd (load1F_eq h2 hd) ?_
  refine ex_pur (T_keep (by decide) h5) ?_
  refine ex_rd (r2_eq (T_keep (by decide) T_same) T_same hl) ?_
  refine ex_pur (b2_eq T_same rfl (eq0 n)) ?_
  rw [hn]
  refine ex_pur T_same ?_
  refine ex_on T_same rfl (ex_rd (load1F_eq (v := needs) ?_ hne) ?_)
  · repeat (refine T_keep (by decide) ?_)
    exact h1
  refine ex_on (T_keep (by decide) T_same) rfl (ex_pur (v := .int .i64 k) ?_ ?_)
  · repeat (refine T_keep (by decide) ?_)
    exact h5
  refine ex_on (T_keep (by decide) (T_keep (by decide) T_same)) rfl (ex_pur (b2_eq (T_keep (by decide) T_same) T_same hix) ?_)
  refine ex_on (T_keep (by decide) (T_keep (by decide) (T_keep (by decide) T_same))) rfl (ex_rd (load1F_eq T_same hm) ?_)
  refine ex_on (T_keep (by decide) (T_keep (by decide) (T_keep (by decide) (T_keep (by decide) T_same)))) rfl (ex_pur (v := .int .i64 i) ?_ ?_)
  · repeat (refine T_keep (by decide) ?_)
    exact h0
  refine ex_on (T_keep (by decide) (T_keep (by decide) (T_keep (by decide) (T_keep (by decide) (T_keep (by decide) T_same))))) rfl (ex_rd (r2_eq (T_keep (by decide) T_same) T_same hl2) ?_)
  refine ex_on (T_keep (by decide) (T_keep (by decide) (T_keep (by decide) (T_keep (by decide) (T_keep (by decide) (T_keep (by decide) T_same)))))) rfl (ex_pur (b2_eq T_same rfl (eq0 n')) ?_)
  refine ex_pur (v := .bool (intEq n' 0)) ?_ ?_
  · unfold pickF
    rw [T_keep (by decide) (T_keep (by decide) (T_keep (by decide) (T_keep (by decide) (T_keep (by decide) (T_keep (by decide) (T_keep (by decide) T_same))))))]
    exact T_same (l := [])
  · refine ex_end ⟨⟨rfl, rfl, rfl, fun q hq => ?_⟩, T_same⟩
    simp only
    repeat (rw [T_other (pp_ne (by omega))])
noncomputable def as1 : List AOper := [.op (.slot (pathOf 6)) (.rd (load1F (T (pathOf 1)))), .op (.slot (pathOf 7)) (.pur (T (pathOf 0))), .op (.slot (pathOf 8)) (.pur (AX.b2 (indexAddrSV 1) (T (pathOf 6)) (T (pathOf 7)))), .op (.slot (pathOf 9)) (.rd (load1F (T (pathOf 8))))]
theorem piece1 (h0 : T (pathOf 0) [] tm = .ok (.int .i64 i)) (h1 : T (pathOf 1) [] tm = .ok (.ptr b1 o1)) (hne : (h.obj b1).bind (load1O o1) = .ok needs) (hix : indexAddrSV 1 needs (.int .i64 i) = .ok (.ptr bN oN)) (hm : (h.obj bN).bind (load1O oN) = .ok m) :
    ∃ s, opsK call as1 [] tm h [] = .norm s ∧ (Left 6 9 tm h s ∧ T (pathOf 9) [] s.tm = .ok m) := by
  unfold as1
  refine ex_rd (load1F_eq h1 hne) ?_
  refine ex_pur (T_keep (by decide) h0) ?_
  refine ex_pur (b2_eq (T_keep (by decide) T_same) T_same hix) ?_
  refine ex_rd (load1F_eq T_same hm) ?_
  refine ex_end ⟨⟨rfl, rfl, rfl, fun q hq => ?_⟩, T_same⟩
  simp only
  repeat (rw [T_other (pp_ne (by omega))])
noncomputable def as6 : List AOper := [.op (.slot (pathOf 28)) (.rd (load1F (T (pathOf 2)))), .op (.slot (pathOf 29)) (.pur (T (pathOf 0))), .op (.slot (pathOf 30)) (.rd (r2 (lookV keyI zero64) (T (pathOf 28)) (T (pathOf 29)))), .op (.slot (pathOf 31)) (.pur (AX.b2 (intV eqI) (T (pathOf 30)) (C zero64))), .op (.slot (pathOf 4)) (.pur (T (pathOf 31)))]
theorem piece6 (h0 : T (pathOf 0) [] tm = .ok (.int .i64 i)) (h2 : T (pathOf 2) [] tm = .ok (.ptr b2 o2)) (hd : (h.obj b2).bind (load1O o2) = .ok done) (hl : lookV keyI zero64 h done (.int .i64 i) = .ok (.int .i64 n)) :
    ∃ s, opsK call as6 [] tm h [] = .norm s ∧ (s.l = [] ∧ s.hp = h ∧ s.df = [] ∧ T (pathOf 4) [] s.tm = .ok (.bool (intEq n 0))) := by
  unfold as6
  refine ex_rd (load1F_eq h2 hd) ?_
  refine ex_pur (T_keep (by decide) h0) ?_
  refine ex_rd (r2_eq (T_keep (by decide) T_same) T_same hl) ?_
  refine ex_pur (b2_eq T_same rfl (eq0 n)) ?_
  refine ex_pur T_same ?_
  exact ex_end ⟨rfl, rfl, rfl, T_same⟩
end
noncomputable def bornsOk (c : Nat) (es : List AE) : Nat → Bool := List.rec (motive := fun _ => Nat → Bool) (fun lo => Nat.ble lo c) (fun e _ ih lo => band (Nat.ble lo e.born) (ih (e.born + 1))) es
noncomputable def entriesA (h : AH) (m : AV) : R (List AE) := match m with
  | .map0 => .ok []
  | .map b => (h.obj b).bind (onMapO 403 fun es c => tst 404 (bornsOk c es 0) (.ok es))
  | _ => .err [405]
noncomputable def blockA (h : AH) (needs done : AV) (i : Int) (e : AE) : R Bool := onInt 406 (fun kk k => tst 407 (kindEq kk .i64) ((lookV keyI zero64 h done (.int .i64 k)).bind (onInt 408 fun nk n => tst 409 (kindEq nk .i64) (bsel (intEq n 0)
  ((indexAddrSV 1 needs (.int .i64 k)).bind (onPtr 410 fun bN oN => ((h.obj bN).bind (load1O oN)).bind fun m => (lookV keyI zero64 h m (.int .i64 i)).bind (onInt 411 fun nk' n' => tst 412 (kindEq nk' .i64) (.ok (intEq n' 0))))) (.ok false))))) e.key
noncomputable def anyA (h : AH) (needs done : AV) (i : Int) (es : List AE) : R Bool := List.rec (motive := fun _ => R Bool) (.ok false) (fun e _ ih => (blockA h needs done i e).bind fun b => ih.bind fun r => .ok (bor b r)) es
noncomputable def readyA : CallH → List AV → AH → R (AV × AH) := fun _ args h => match args with
  | [.int .i64 i, .ptr b1 o1, .ptr b2 o2] => ((h.obj b1).bind (load1O o1)).bind fun needs => ((h.obj b2).bind (load1O o2)).bind fun done =>
    (indexAddrSV 1 needs (.int .i64 i)).bind (onPtr 413 fun bN oN => ((h.obj bN).bind (load1O oN)).bind fun m => (entriesA h m).bind fun es => (anyA h needs done i es).bind fun x =>
      bsel x (.ok (.bool false, h)) ((lookV keyI zero64 h done (.int .i64 i)).bind (onInt 414 fun nk n => tst 415 (kindEq nk .i64) (.ok (.bool (intEq n 0), h)))))
  | _ => .err [416]
theorem anyA_ok {h : AH} {needs done : AV} {i : Int} : ∀ {es : List AE} {x : Bool}, anyA h needs done i es = .ok x → (∀ e, e ∈ es → ∃ b, blockA h needs done i e = .ok b) ∧ (x = true ↔ ∃ e, e ∈ es ∧ blockA h needs done i e = .ok true)
  | [], x, hr => by
    have hr : R.ok false = .ok x := hr
    cases hr
    exact ⟨fun e he => (by cases he), by simp⟩
  | e :: es, x, hr => by
    have hr : ((blockA h needs done i e).bind fun b => (anyA h needs done i es).bind fun r => .ok (bor b r)) = .ok x := hr
    obtain ⟨b, h1, h2⟩ := bind_eq.1 hr
    obtain ⟨r, h3, h4⟩ := bind_eq.1 h2
    cases h4
    obtain ⟨g1, g2⟩ := anyA_ok h3
    refine ⟨fun e' he' => ?_, ?_⟩
    · rcases List.mem_cons.1 he' with rfl | he'
      · exact ⟨b, h1⟩
      · exact g1 e' he'
    · rw [bor_eq, Bool.or_eq_true, g2]
      constructor
      · rintro (rfl | ⟨e', h5, h6⟩)
        · exact ⟨e, by simp, h1⟩
        · exact ⟨e', by simp [h5], h6⟩
      · rintro ⟨e', h5, h6⟩
        rcases List.mem_cons.1 h5 with rfl | h5
        · rw [h1] at h6; cases h6; exact .inl rfl
        · exact .inr ⟨e', h5, h6⟩
theorem bornsOk_ok {c : Nat} : ∀ {es : List AE} {lo : Nat}, bornsOk c es lo = true → lo ≤ c ∧ (∀ e, e ∈ es → lo ≤ e.born ∧ e.born < c) ∧ (es.map (·.born)).Nodup
  | [], lo, h => by
    have h : Nat.ble lo c = true := h
    rw [natBle_eq] at h
    exact ⟨h, fun e he => (by cases he), by simp⟩
  | e :: es, lo, h => by
    have h : band (Nat.ble lo e.born) (bornsOk c es (e.born + 1)) = true := h
    rw [band_eq, Bool.and_eq_true, natBle_eq] at h
    obtain ⟨h1, h2⟩ := h
    obtain ⟨g1, g2, g3⟩ := bornsOk_ok h2
    refine ⟨by omega, fun e' he' => ?_, ?_⟩
    · rcases List.mem_cons.1 he' with rfl | he'
      · omega
      · have := g2 e' he'; omega
    · rw [List.map_cons, List.nodup_cons]
      refine ⟨fun hm => ?_, g3⟩
      obtain ⟨e', he', hb⟩ := List.mem_map.1 hm
      have := g2 e' he'
      omega
end Go.AX
/- The abstract executor: ranging over a map, entry after entry, in whatever order. -/
namespace Go.AX
open Go.ChangeMaps (setBlock)
open Go.RowKit
def IterOk (ρ : Rho) (w : World) (r : Nat) (es : List AE) (seen : Array Nat) : Prop :=
  (es = [] ∧ ∃ a s b, w.heap[r]? = some (.mapIter none a s b)) ∨
  ∃ bm xs c, w.heap[r]? = some (.mapIter (some bm) c seen c) ∧ w.heap[bm]? = some (.map xs c) ∧ bm ≠ r ∧ EntriesOk ρ es xs.toList ∧ (∀ x ∈ xs.toList, x.born < c) ∧ (xs.toList.map (·.born)).Nodup
def leftN (es : List AE) (seen : Array Nat) : Nat := (es.filter fun e => !seen.contains e.born).length
theorem leftN_push {es : List AE} {seen : Array Nat} {e : AE} (he : e ∈ es) (hn : seen.contains e.born = false) : leftN es (seen.push e.born) < leftN es seen := by
  unfold leftN
  have h1 : ∀ x : AE, (!(seen.push e.born).contains x.born) = (!(x.born == e.born) && !seen.contains x.born) := by
    intro x
    rw [Array.contains_push]
    cases seen.contains x.born <;> cases (x.born == e.born) <;> rfl
  rw [List.filter_congr (fun x _ => h1 x)]
  rw [← List.filter_filter]
  refine Nat.lt_of_le_of_ne (List.length_filter_le _ _) fun h => ?_
  rw [List.length_filter_eq_length_iff] at h
  have := h e (List.mem_filter.2 ⟨he, by rw [hn]; rfl⟩)
  simp at this
theorem run_next_nil {P : Program} (w : World) (ty : TypeId) (r a b : Nat) (s : Array Nat) (hr : w.heap[r]? = some (.mapIter none a s b)) :
    (Instr.next (.pointer (some ⟨r, 0, none⟩)) false ty).run P w = .ok (.tuple #[.bool false]) w := by
  simp only [Instr.next, getObj, Sem.run_bind, Sem.run, hr, Result.andThen]
  rfl
theorem setBlock_same {w : World} {r : Nat} {o o' : Obj} (h : w.heap[r]? = some o) : (setBlock w r o').heap[r]? = some o' := by
  have hlt := (Array.getElem?_eq_some_iff.1 h).1
  simp [setBlock, hlt]
theorem setBlock_other {w : World} {r k : Nat} {o' : Obj} (h : k ≠ r) : (setBlock w r o').heap[k]? = w.heap[k]? := by
  simp only [setBlock, Array.getElem?_setIfInBounds]
  rw [if_neg (fun e => h e.symm)]
structure But (r : Nat) (w w' : World) : Prop where
  os : w'.os = w.os
  tape : w'.tape = w.tape
  output : w'.output = w.output
  size : w'.heap.size = w.heap.size
  block : ∀ k, k ≠ r → w'.heap[k]? = w.heap[k]?
theorem But.below {r : Nat} {w0 w w' : World} {B : Nat} (h : But r w w') (hb : Below B w0 w) (hB : B ≤ r) : Below B w0 w' :=
  ⟨h.os.trans hb.os, h.tape.trans hb.tape, h.output.trans hb.output, by rw [h.size]; exact hb.size, fun k hk => by rw [h.block k (by omega)]; exact hb.block k hk⟩
theorem iter_step {P : Program} {ρ : Rho} {w : World} {r : Nat} {es : List AE} {seen : Array Nat} (hi : IterOk ρ w r es seen) (ty : TypeId) :
    ((Instr.next (.pointer (some ⟨r, 0, none⟩)) false ty).run P w = .ok (.tuple #[.bool false]) w ∧ ∀ e ∈ es, seen.contains e.born = true) ∨
    ∃ e ∈ es, seen.contains e.born = false ∧ ∃ k v w', (Instr.next (.pointer (some ⟨r, 0, none⟩)) false ty).run P w = .ok (.tuple #[.bool true, k, v]) w' ∧ IterOk ρ w' r es (seen.push e.born) ∧ But r w w' ∧
      den ρ e.key = some k ∧ den ρ e.val = some v ∧ (Instr.entry (.pointer (some ⟨r, 0, none⟩))).run P w' = .ok (.tuple #[k, v]) w' := by
  rcases hi with ⟨rfl, a, s, b, h⟩ | ⟨bm, xs, c, h1, h2, h3, h4, h5, h6⟩
  · exact .inl ⟨run_next_nil w ty r a b s h, fun e he => (by cases he)⟩
  · rcases run_next_at (P := P) w ty r bm c c seen xs c h1 h2 h5 (Nat.le_refl _) with ⟨g1, g2⟩ | ⟨x, g1, w1, g2, g3⟩
    · refine .inl ⟨g2, fun e he => ?_⟩
      obtain ⟨i, hi, rfl⟩ := List.mem_iff_getElem.1 he
      have hi' : i < xs.toList.length := by rw [h4.1]; exact hi
      obtain ⟨_, _, q⟩ := h4.2 i es[i] xs.toList[i] (by simp [hi]) (List.getElem?_eq_getElem hi')
      have hL : leftOf xs seen = #[] := Array.eq_empty_of_size_eq_zero g1
      unfold leftOf at hL
      rw [Array.filter_eq_empty_iff] at hL
      have := hL xs.toList[i] (by rw [← Array.mem_toList_iff]; exact List.getElem_mem hi')
      rw [q]
      simpa using this
    · obtain ⟨m1, m2⟩ := mem_left g1
      obtain ⟨i, hi, hx⟩ := List.mem_iff_getElem.1 m1
      have hi' : i < es.length := by rw [← h4.1]; exact hi
      obtain ⟨q1, q2, q⟩ := h4.2 i es[i] x (by simp [hi']) (by rw [List.getElem?_eq_getElem hi, hx])
      have hw1 : ∀ k : Nat, w1.heap[k]? = w.heap[k]? := by rcases g2 with rfl | rfl <;> (intro k; rfl)
      have e1 : (setBlock w1 r (.mapIter (some bm) c (seen.push x.born) c)).heap[r]? = some (.mapIter (some bm) c (seen.push x.born) c) := setBlock_same (by rw [hw1]; exact h1)
      have e2 : (setBlock w1 r (.mapIter (some bm) c (seen.push x.born) c)).heap[bm]? = some (.map xs c) := by rw [setBlock_other h3, hw1]; exact h2
      refine .inr ⟨es[i], List.getElem_mem hi', by rw [q]; exact m2, x.key, x.val, _, g3, .inr ⟨bm, xs, c, by rw [q]; exact e1, e2, h3, h4, h5, h6⟩, ?_, q1, q2, run_entry_at _ r bm c seen xs c x e1 e2 m1 h6⟩
      rcases g2 with rfl | rfl <;> exact ⟨rfl, rfl, rfl, (Array.size_setIfInBounds ..), fun k hk => setBlock_other hk⟩
theorem wpOp_at {P : Program} {ops : Array Oper} {o : Oper} {n : Nat} {Qx : Exit → Act → World → Prop} {K : Act → World → Prop} {a : Act} {w : World} (d : Nat) (ho : ops[n]? = some o) (hd : o.dst = some d) (hg : o.guard = none) {v : Value} {w' : World} (hrun : (execOp a.eval o).run P w = .ok (.value v) w') (h : K (a.put (some d) v) w') : wpOp P ops Qx n K a w :=
  wpOp_plain ho hg hrun (by rw [hd]; exact h)
theorem run_assign {P : Program} {ev : Operand → Value} {w : World} {x : Operand} {v : Value} {dst : Option Tmp} {ty : TypeId} {pos : String} {after : Array Edge} {g : Option (Nat × Bool)} (h : ev x = v) : (execOp ev ⟨dst, .assign x, ty, pos, after, g⟩).run P w = .ok (.value v) w := by
  simp only [execOp]
  rw [h]
  rfl
theorem eq_of_born : ∀ {es : List AE} {x y : AE}, (es.map (·.born)).Nodup → x ∈ es → y ∈ es → x.born = y.born → x = y
  | [], _, _, _, hx, _, _ => by cases hx
  | e :: es, x, y, hn, hx, hy, h => by
    rw [List.map_cons, List.nodup_cons] at hn
    rcases List.mem_cons.1 hx with h1 | h1 <;> rcases List.mem_cons.1 hy with h2 | h2
    · rw [h1, h2]
    · exact absurd (List.mem_map.2 ⟨y, h2, by rw [← h, h1]⟩) hn.1
    · exact absurd (List.mem_map.2 ⟨x, h1, by rw [h, h2]⟩) hn.1
    · exact eq_of_born hn.2 h1 h2 h
theorem entriesA_nodup {h : AH} {m : AV} {es : List AE} (hr : entriesA h m = .ok es) : (es.map (·.born)).Nodup := by
  unfold entriesA at hr
  split at hr
  · cases hr; exact List.nodup_nil
  · obtain ⟨ob, u1, u2⟩ := bind_eq.1 hr
    obtain ⟨es', c, rfl, u3⟩ := onMapO_eq.1 u2
    obtain ⟨v1, v2⟩ := tst_eq.1 u3
    cases v2
    exact (bornsOk_ok v1).2.2
  · cases hr
theorem env_set {ρ : Rho} {E : CE} {tm : Q AV} {ts : Array Value} {t : Nat} {v : AV} {x : Value} (hE : E.ns = []) (ht : t < E.nt) (he : EnvOk ρ E [] tm ts) (hx : den ρ v = some x) : EnvOk ρ E [] (Q.set (pathOf t) (some v) tm) (ts.setIfInBounds t x) := by
  refine ⟨by simp [he.size], fun t' v' hm hv => ?_, by rw [hE]; rfl, fun k t' v' hk => by rw [hE] at hk; simp at hk⟩
  rw [Q.get_set] at hv
  split at hv
  · rename_i e
    have := pathOf_inj e
    subst this
    cases hv
    have hlt : t' < ts.size := by rw [he.size]; exact ht
    exact ⟨x, by simp [hlt], hx⟩
  · rename_i e
    obtain ⟨y, h1, h2⟩ := he.slot t' v' hm hv
    exact ⟨y, by rw [Array.getElem?_setIfInBounds, if_neg (fun q => e (by rw [q]))]; exact h1, h2⟩
theorem env_drop {ρ : Rho} {E : CE} {tm : Q AV} {ts : Array Value} {t : Nat} {x : Value} (hE : E.ns = []) (he : EnvOk ρ E [] tm ts) : EnvOk ρ E [] (Q.set (pathOf t) none tm) (ts.setIfInBounds t x) := by
  refine ⟨by simp [he.size], fun t' v' hm hv => ?_, by rw [hE]; rfl, fun k t' v' hk => by rw [hE] at hk; simp at hk⟩
  rw [Q.get_set] at hv
  split at hv
  · cases hv
  · rename_i e
    obtain ⟨y, h1, h2⟩ := he.slot t' v' hm hv
    exact ⟨y, by rw [Array.getElem?_setIfInBounds, if_neg (fun q => e (by rw [q]))]; exact h1, h2⟩
theorem T_drop {q t : Nat} {tm : Q AV} (h : q ≠ t) : T (pathOf q) [] (Q.set (pathOf t) none tm) = T (pathOf q) [] tm := by
  unfold T Q.at
  rw [Q.get_set, if_neg (pp_ne h)]
theorem readyA_same {call : CallH} {args : List AV} {h h' : AH} {v : AV} (hr : readyA call args h = .ok (v, h')) : h' = h := by
  unfold readyA at hr
  split at hr
  · obtain ⟨needs, r1, q1⟩ := bind_eq.1 hr
    obtain ⟨done, r2, q2⟩ := bind_eq.1 q1
    obtain ⟨pe, r3, q3⟩ := bind_eq.1 q2
    obtain ⟨bN, oN, rfl, q4⟩ := onPtr_eq.1 q3
    obtain ⟨mm, r4, q5⟩ := bind_eq.1 q4
    obtain ⟨es, r5, q6⟩ := bind_eq.1 q5
    obtain ⟨x, r6, q7⟩ := bind_eq.1 q6
    rw [bsel_eq] at q7
    split at q7
    · cases q7; rfl
    · obtain ⟨z, _, q8⟩ := bind_eq.1 q7
      obtain ⟨kk, n, _, q9⟩ := onInt_eq.1 q8
      obtain ⟨_, q10⟩ := tst_eq.1 q9
      cases q10; rfl
  · cases hr
end Go.AX
/- The abstract executor: code as a list of pieces; one operation put in another's place. -/
namespace Go.AX
noncomputable section
def runL (call : CallH) (l : List ACode) : St → CR := List.rec (motive := fun _ => St → CR) CR.norm (fun c _ ih s => (runA call c s).then ih) l
def flat (c : ACode) : List ACode := ACode.rec (motive := fun _ => List ACode) [.skip] (fun l => [.ops l]) (fun l => [.draw l]) (fun _ _ f g => app f g) (fun c x y _ _ => [.cond c x y]) (fun id x _ => [.block id x]) (fun x _ => [.loop x]) (fun id => [.exit id]) [.ret] (fun l => [.bad l]) (fun W sa si es fo x y _ _ => [.both W sa si es fo x y]) c
theorem CR.then_assoc (r : CR) (f g : St → CR) : (r.then f).then g = r.then fun s => (f s).then g := by cases r <;> rfl
theorem CR.then_norm (r : CR) : r.then CR.norm = r := by cases r <;> rfl
theorem runL_app (call : CallH) : ∀ (l m : List ACode) (s : St), runL call (l ++ m) s = (runL call l s).then (runL call m)
  | [], m, s => rfl
  | c :: l, m, s => by
    show (runA call c s).then (runL call (l ++ m)) = ((runA call c s).then (runL call l)).then (runL call m)
    rw [CR.then_assoc]
    congr 1
    funext t
    exact runL_app call l m t
theorem runL_one (call : CallH) (c : ACode) (s : St) : runL call [c] s = runA call c s := CR.then_norm _
theorem runA_seq (call : CallH) (x y : ACode) (s : St) : runA call (.seq x y) s = (runA call x s).then (runA call y) := rfl
theorem runA_flat (call : CallH) : ∀ (c : ACode) (s : St), runA call c s = runL call (flat c) s
  | .seq x y, s => by
    rw [runA_seq, runA_flat call x, show flat (.seq x y) = app (flat x) (flat y) from rfl, app_eq, runL_app]
    congr 1
    funext t
    exact runA_flat call y t
  | .skip, s => (runL_one call _ s).symm
  | .ops _, s => (runL_one call _ s).symm
  | .draw _, s => (runL_one call _ s).symm
  | .cond _ _ _, s => (runL_one call _ s).symm
  | .block _ _, s => (runL_one call _ s).symm
  | .loop _, s => (runL_one call _ s).symm
  | .exit _, s => (runL_one call _ s).symm
  | .ret, s => (runL_one call _ s).symm
  | .bad _, s => (runL_one call _ s).symm
  | .both .., s => (runL_one call _ s).symm
def isNorm (r : CR) : Bool := CR.rec (motive := fun _ => Bool) (fun _ => true) (fun _ _ => false) (fun _ => false) (fun _ => false) r
def stOf (r : CR) : St := CR.rec (motive := fun _ => St) (fun s => s) (fun _ s => s) (fun s => s) (fun _ => ⟨[], .nil, ⟨.nil, []⟩, []⟩) r
theorem opsK_app (call : CallH) : ∀ (as bs : List AOper) (l : List AV) (tm : Q AV) (h : AH) (df : List ADefer), opsK call (as ++ bs) l tm h df = (opsK call as l tm h df).then (St.run (opsK call bs))
  | [], bs, l, tm, h, df => rfl
  | o :: as, bs, l, tm, h, df => by
    have ih := opsK_app call as bs
    show operK call o (opsK call (as ++ bs)) l tm h df = (operK call o (opsK call as) l tm h df).then _
    have put : ∀ (d : Dst) v l tm h df, putK d (opsK call (as ++ bs)) v l tm h df = (putK d (opsK call as) v l tm h df).then (St.run (opsK call bs)) := by
      intro d v l tm h df
      cases d <;> exact ih _ _ _ _
    have hop : ∀ (d : Dst) (k : OpK) l tm h df, opK call d k (opsK call (as ++ bs)) l tm h df = (opK call d k (opsK call as) l tm h df).then (St.run (opsK call bs)) := by
      intro d k l tm h df
      cases k with
      | pur f => rw [opK_pur, opK_pur]; cases f l tm with
        | ok v => exact put _ _ _ _ _ _
        | err _ => rfl
      | rd f => rw [opK_rd, opK_rd]; cases f l tm h with
        | ok v => exact put _ _ _ _ _ _
        | err _ => rfl
      | alc f => rw [opK_alc, opK_alc]; cases f l tm h.nx with
        | ok v => exact put _ _ _ _ _ _
        | err _ => rfl
      | mem f => rw [opK_mem, opK_mem]; cases f call l tm h with
        | ok v => exact put _ _ _ _ _ _
        | err _ => rfl
    cases o with
    | op d k => exact hop d k l tm h df
    | grd g want d k =>
      show R.rec (motive := fun _ => CR) (fun v => bsel (wantB want v) (opK call d k (opsK call (as ++ bs)) l tm h df) (putK d (opsK call (as ++ bs)) .undef l tm h df)) CR.err (g l tm) = CR.then (R.rec (motive := fun _ => CR) (fun v => bsel (wantB want v) (opK call d k (opsK call as) l tm h df) (putK d (opsK call as) .undef l tm h df)) CR.err (g l tm)) _
      cases g l tm with
      | err _ => rfl
      | ok v =>
        show bsel (wantB want v) _ _ = CR.then (bsel (wantB want v) _ _) _
        cases wantB want v
        · exact put _ _ _ _ _ _
        · exact hop _ _ _ _ _ _
    | dfr f args =>
      show R.rec (motive := fun _ => CR) (fun r => opsK call (as ++ bs) l tm h (r :: df)) CR.err (dfrA f args l tm) = CR.then (R.rec (motive := fun _ => CR) (fun r => opsK call as l tm h (r :: df)) CR.err (dfrA f args l tm)) _
      cases dfrA f args l tm with
      | err _ => rfl
      | ok vs => exact ih _ _ _ _
def ahead (call : CallH) (A : List ACode) (pre : List AOper) (s : St) : CR := (runL call A s).then (St.run (opsK call pre))
theorem swap_mem {call : CallH} {A B : List ACode} {pre post : List AOper} {d : Dst} {f : CallH → List AV → Q AV → AH → R (AV × AH)} {s : St} {v : AV} (hn : isNorm (ahead call A pre s) = true)
    (hv : f call (stOf (ahead call A pre s)).l (stOf (ahead call A pre s)).tm (stOf (ahead call A pre s)).hp = .ok (v, (stOf (ahead call A pre s)).hp)) :
    runL call (A ++ .ops (pre ++ .op d (.mem f) :: post) :: B) s = runL call (A ++ .ops (pre ++ .op d (.pur (C v)) :: post) :: B) s := by
  rw [runL_app, runL_app]
  unfold ahead at hn hv
  have key : ∀ t, runL call A s = .norm t → runL call (.ops (pre ++ .op d (.mem f) :: post) :: B) t = runL call (.ops (pre ++ .op d (.pur (C v)) :: post) :: B) t := by
    intro t ht
    rw [ht] at hn hv
    obtain ⟨l, tm, hp, df⟩ := t
    show (opsK call (pre ++ .op d (.mem f) :: post) l tm hp df).then (runL call B) = (opsK call (pre ++ .op d (.pur (C v)) :: post) l tm hp df).then (runL call B)
    rw [opsK_app, opsK_app]
    have hn : isNorm (opsK call pre l tm hp df) = true := hn
    have hv : f call (stOf (opsK call pre l tm hp df)).l (stOf (opsK call pre l tm hp df)).tm (stOf (opsK call pre l tm hp df)).hp = .ok (v, (stOf (opsK call pre l tm hp df)).hp) := hv
    cases hc : opsK call pre l tm hp df with
    | norm u =>
      rw [hc] at hv
      obtain ⟨l2, tm2, hp2, df2⟩ := u
      have hv : f call l2 tm2 hp2 = .ok (v, hp2) := hv
      show (opK call d (.mem f) (opsK call post) l2 tm2 hp2 df2).then (runL call B) = (opK call d (.pur (C v)) (opsK call post) l2 tm2 hp2 df2).then (runL call B)
      rw [opK_mem, hv, opK_pur]
      rfl
    | exit i u => rw [hc] at hn; cases hn
    | ret u => rw [hc] at hn; cases hn
    | err u => rw [hc] at hn; cases hn
  cases ht : runL call A s with
  | norm t => exact key t ht
  | exit i t => rfl
  | ret t => rfl
  | err t => rfl
theorem swap_pur {call : CallH} {A B : List ACode} {pre post : List AOper} {d : Dst} {f : Opd} {s : St} {v : AV} (hn : isNorm (ahead call A pre s) = true)
    (hv : f (stOf (ahead call A pre s)).l (stOf (ahead call A pre s)).tm = .ok v) :
    runL call (A ++ .ops (pre ++ .op d (.pur f) :: post) :: B) s = runL call (A ++ .ops (pre ++ .op d (.pur (C v)) :: post) :: B) s := by
  rw [runL_app, runL_app]
  unfold ahead at hn hv
  have key : ∀ t, runL call A s = .norm t → runL call (.ops (pre ++ .op d (.pur f) :: post) :: B) t = runL call (.ops (pre ++ .op d (.pur (C v)) :: post) :: B) t := by
    intro t ht
    rw [ht] at hn hv
    obtain ⟨l, tm, hp, df⟩ := t
    show (opsK call (pre ++ .op d (.pur f) :: post) l tm hp df).then (runL call B) = (opsK call (pre ++ .op d (.pur (C v)) :: post) l tm hp df).then (runL call B)
    rw [opsK_app, opsK_app]
    have hn : isNorm (opsK call pre l tm hp df) = true := hn
    have hv : f (stOf (opsK call pre l tm hp df)).l (stOf (opsK call pre l tm hp df)).tm = .ok v := hv
    cases hc : opsK call pre l tm hp df with
    | norm u =>
      rw [hc] at hv
      obtain ⟨l2, tm2, hp2, df2⟩ := u
      have hv : f l2 tm2 = .ok v := hv
      show (opK call d (.pur f) (opsK call post) l2 tm2 hp2 df2).then (runL call B) = (opK call d (.pur (C v)) (opsK call post) l2 tm2 hp2 df2).then (runL call B)
      rw [opK_pur, hv, opK_pur]
      rfl
    | exit i u => rw [hc] at hn; cases hn
    | ret u => rw [hc] at hn; cases hn
    | err u => rw [hc] at hn; cases hn
  cases ht : runL call A s with
  | norm t => exact key t ht
  | exit i t => rfl
  | ret t => rfl
  | err t => rfl
end
end Go.AX
/- The abstract executor: a number brought below a bound. -/
namespace Go.AX
noncomputable section
open D
def numC : AFn := ⟨(nat_lit 15), (.seq (.ops [.op (.slot [k4]) (.pur (C (.int .i64 (.ofNat (nat_lit 0)))))]) (.seq (.ops [.op .loc (.pur (T [])), .op .loc (.pur (T [k1])), .op .loc (.pur (b2 (intV remI) (L (nat_lit 1)) (L (nat_lit 0)))), .op (.slot [k1,k1]) (.pur (L (nat_lit 0)))]) (.seq (.seq (.ops [.op .loc (.pur (T [k1,k1])), .op .loc (.pur (b2 (intV ltI) (L (nat_lit 0)) (C (.int .i64 (.ofNat (nat_lit 0))))))]) (.cond (L (nat_lit 0)) (.ops [.op .loc (.pur (T [k1,k1])), .op .loc (.pur (T [k1])), .op .loc (.pur (b2 (intV addI) (L (nat_lit 1)) (L (nat_lit 0)))), .op (.slot [k1,k1]) (.pur (L (nat_lit 0)))]) .skip)) (.seq (.ops [.op .loc (.pur (T [k1,k1])), .op (.slot [k4]) (.pur (L (nat_lit 0)))]) .ret)))), [.tmp (T [k4])]⟩
def numI (n : Int) (m : Nat) : Int := Int.rec (motive := fun _ => Int) Int.ofNat (fun q => wrap64' (Int.subNatNat m (q + 1))) (n.tmod (.ofNat m))
theorem numI_lt (n : Int) {m : Nat} (h0 : 0 < m) (h : m ≤ 2147483648) : ∃ q, numI n m = .ofNat q ∧ q < m := by
  unfold numI
  have h1 : (n.tmod (.ofNat m)).natAbs < m := by
    rw [Int.natAbs_tmod]
    exact Nat.mod_lt _ h0
  generalize n.tmod (.ofNat m) = r at h1
  cases r with
  | ofNat q => exact ⟨q, rfl, by simpa using h1⟩
  | negSucc q =>
    have h1 : q + 1 < m := by simpa using h1
    refine ⟨m - (q + 1), ?_, by omega⟩
    show wrap64' (Int.subNatNat m (q + 1)) = _
    rw [Int.subNatNat_of_le (by omega)]
    unfold wrap64'
    have : fits64 (Int.ofNat (m - (q + 1))) = true := by
      show Nat.blt _ _ = true
      rw [Nat.blt_eq]; omega
    show Bool.rec (motive := fun _ => Int) _ _ (fits64 (Int.ofNat (m - (q + 1)))) = _
    rw [this]
    rfl
theorem num_fn (call callD : CallH) (n : Int) (m : Nat) (h : AH) : runFn call callD numC [.int .i64 n, .int .i64 (.ofNat (m + 1))] h = .ok (.int .i64 (numI n (m + 1)), h) := by
  show endFn callD numC.res (runA call numC.code ⟨[], argsTm [.int .i64 n, .int .i64 (.ofNat (m + 1))] 0 .nil, h, []⟩) = _
  rw [runA_flat]
  rw [show flat numC.code = [.ops [.op (.slot [k4]) (.pur (C (.int .i64 (.ofNat (nat_lit 0)))))]] ++ .ops ([.op .loc (.pur (T [])), .op .loc (.pur (T [k1]))] ++ .op .loc (.pur (b2 (intV remI) (L (nat_lit 1)) (L (nat_lit 0)))) :: [.op (.slot [k1,k1]) (.pur (L (nat_lit 0)))]) :: (flat numC.code).drop 2 from rfl]
  rw [swap_pur (v := .int .i64 (n.tmod (.ofNat (m + 1)))) rfl rfl]
  unfold numI
  generalize n.tmod (.ofNat (m + 1)) = r
  cases r with
  | ofNat q => rfl
  | negSucc q => rfl
def numX : CallH → List AV → AH → R (AV × AH) := fun _ args h => match args with
  | [v, u] => (onInt 430 (fun k n => tst 431 (kindEq k .i64) (onInt 432 (fun k' m => tst 433 (kindEq k' .i64) (onNat 434 (fun m => Nat.rec (motive := fun _ => R (AV × AH)) (.err [435]) (fun m' _ => .ok (.int .i64 (numI n (m' + 1)), h)) m) m)) u)) v)
  | _ => .err [436]
theorem numX_eq {ih : CallH} {args : List AV} {h h' : AH} {v : AV} (hr : numX ih args h = .ok (v, h')) : ∃ n m, args = [.int .i64 n, .int .i64 (.ofNat (m + 1))] ∧ v = .int .i64 (numI n (m + 1)) ∧ h' = h := by
  unfold numX at hr
  split at hr
  · obtain ⟨k, n, rfl, h1⟩ := onInt_eq.1 hr
    obtain ⟨h2, h3⟩ := tst_eq.1 h1
    obtain rfl := kindEq_eq h2
    obtain ⟨k', m, rfl, h4⟩ := onInt_eq.1 h3
    obtain ⟨h5, h6⟩ := tst_eq.1 h4
    obtain rfl := kindEq_eq h5
    obtain ⟨m', rfl, h7⟩ := onNat_eq.1 h6
    cases m' with
    | zero => cases h7
    | succ m' => cases h7; exact ⟨n, m', rfl, rfl, rfl⟩
  · cases hr
theorem defOk_none {P : Program} : DefOk P noCall := fun f args h v h' hr => by cases hr
def OneOk (P : Program) (X : Ext) (f : FuncId) (g : CallH → List AV → AH → R (AV × AH)) : Prop := ∀ ih, CallOk P X ih → ∀ args h v h', g ih args h = .ok (v, h') → num h.nx ≤ num h'.nx ∧
  ∀ ρ w xs, Mem P ρ h w → Free ρ h h' → denL ρ args = some xs → ∀ (o : Oper) (a : Act) (next : Act → World → Prop) (Q : Exit → Act → World → Prop),
    (∀ ρ' w' x, Step ρ h w ρ' h' w' → Mem P ρ' h' w' → den ρ' v = some x → next (a.put o.dst x) w') → o.upon P a next Q ((callFunc f xs.toArray).run P w)
theorem oneOk_calls {P : Program} {X : Ext} {f : FuncId} {fn : Func} {c : Code} {g : CallH → List AV → AH → R (AV × AH)} (hf : P.funcs[f]? = some fn) (hname : (fn.name == "runtime.NumGoroutine") = false) (hb : fn.body = some c)
    (h : ∀ ih, CallOk P X ih → ∀ args h v h', g ih args h = .ok (v, h') → num h.nx ≤ num h'.nx ∧ ∀ ρ w xs, Mem P ρ h w → Free ρ h h' → denL ρ args = some xs → Calls P f xs.toArray w (Good P ρ h w v h')) : OneOk P X f g := by
  intro ih hc args hp v h' hr
  obtain ⟨h1, h2⟩ := h ih hc args hp v h' hr
  refine ⟨h1, fun ρ w xs m hfr hx o a next Q hn => ?_⟩
  rw [callFunc_run hf hname hb, Oper.upon_enter]
  refine Calls.mono (h2 ρ w xs m hfr hx) fun e w' hg => ?_
  obtain ⟨ρ', x, rfl, hs, hm, hd⟩ := hg
  exact hn ρ' w' x hs hm hd
theorem num_ok {P : Program} {X : Ext} {f : FuncId} {fn : Func} {c : Code} (hf : P.funcs[f]? = some fn) (hname : (fn.name == "runtime.NumGoroutine") = false) (hb : fn.body = some c) (hfn : FnOk P f numC) : OneOk P X f numX :=
  oneOk_calls hf hname hb fun ih hc args _ _ h' hr => by
    obtain ⟨n, m, rfl, rfl, rfl⟩ := numX_eq hr
    exact ⟨Nat.le_refl _, fun ρ w xs mm hfr hx => (fn_calls hc defOk_none hfn (num_fn ih noCall n m h') mm hfr hx).2⟩
end
end Go.AX
/- The abstract executor: functions of the runtime's own, by their rows. -/
namespace Go.AX
section
variable {P : Program} {X : Ext} {f : FuncId}
theorem oneOk_pure {g : CallH → List AV → AH → R (AV × AH)} (h : ∀ ih args h v h', g ih args h = .ok (v, h') → h' = h ∧ ∀ ρ xs, denL ρ args = some xs → ∃ x, den ρ v = some x ∧ ∀ w, (callFunc f xs.toArray).run P w = .ok (.value x) w) : OneOk P X f g := by
  intro ih _ args hp v h' hr
  obtain ⟨rfl, h2⟩ := h ih args hp v h' hr
  refine ⟨Nat.le_refl _, fun ρ w xs m _ hx o a next Q hn => ?_⟩
  obtain ⟨x, h3, h4⟩ := h2 ρ xs hx
  rw [h4, Oper.upon_value]
  exact hn ρ w x (Step.refl ρ _ w) m h3
end
noncomputable section
def bitsX : CallH → List AV → AH → R (AV × AH) := fun _ args h => match args with
  | [.float .f64 b] => .ok (.int .u64 (.ofNat b), h)
  | _ => .err [410]
def fromBitsX : CallH → List AV → AH → R (AV × AH) := fun _ args h => match args with
  | [.int k (.ofNat n)] => tst 411 (kindEq k .u64) (.ok (.float .f64 n, h))
  | _ => .err [412]
def idxByteA (l v c : Nat) (k : Nat) : Nat → Int := Nat.rec (motive := fun _ => Nat → Int) (fun _ => Int.negSucc 0) (fun _ ih i => bsel (Nat.beq (strAt l v i) c) (.ofNat i) (ih (i + 1))) k
def idxByteX : CallH → List AV → AH → R (AV × AH) := fun _ args h => match args with
  | [.str l v, .int k (.ofNat c)] => tst 413 (band (kindEq k .u8) (Nat.blt c 256)) (.ok (.int .i64 (idxByteA l v c l 0), h))
  | _ => .err [414]
end
section
variable {P : Program} {X : Ext} {f : FuncId}
theorem bits_ok (hrun : ∀ (b : Nat) w, (callFunc f #[.float .f64 b]).run P w = .ok (.value (.int .u64 b)) w) : OneOk P X f bitsX := oneOk_pure fun ih args h v h' hr => by
  unfold bitsX at hr
  split at hr
  · cases hr
    refine ⟨rfl, fun ρ xs hx => ?_⟩
    obtain ⟨y, ys, h1, h2, rfl⟩ := denL_cons_eq.1 hx
    cases h2
    rw [den_float] at h1
    cases h1
    exact ⟨_, den_int _ _ _, fun w => hrun _ w⟩
  · cases hr
theorem fromBits_ok (hrun : ∀ (b : Nat) w, (callFunc f #[.int .u64 b]).run P w = .ok (.value (.float .f64 b)) w) : OneOk P X f fromBitsX := oneOk_pure fun ih args h v h' hr => by
  unfold fromBitsX at hr
  split at hr
  · obtain ⟨h0, hr⟩ := tst_eq.1 hr
    cases hr
    obtain rfl := kindEq_eq h0
    refine ⟨rfl, fun ρ xs hx => ?_⟩
    obtain ⟨y, ys, h1, h2, rfl⟩ := denL_cons_eq.1 hx
    cases h2
    rw [den_int] at h1
    cases h1
    exact ⟨_, den_float _ _ _, fun w => hrun _ w⟩
  · cases hr
theorem bytes_at (l v i : Nat) (h : i < l) : (bytesOf l v)[i]! = UInt8.ofNat (strAt l v i) := by
  have := bytesOf_get l v i h
  rw [getElem!_def, this]
  show UInt8.ofNat (v / 256 ^ (l - 1 - i)) = UInt8.ofNat (v / 256 ^ (l - 1 - i) % 256)
  apply UInt8.toNat_inj.1
  simp
theorem idxByteA_eq (l v c : Nat) (hc : c < 256) : ∀ (k i : Nat), i + k = l → (match (List.range' i k).find? fun j => (bytesOf l v)[j]! == c.toUInt8 with | some j => goInt j | none => goInt (-1)) = .int .i64 (idxByteA l v c k i)
  | 0, i, _ => rfl
  | k + 1, i, h => by
    have hi : (bytesOf l v)[i]! = UInt8.ofNat (strAt l v i) := bytes_at l v i (by omega)
    have hs : strAt l v i < 256 := Nat.mod_lt _ (by decide)
    have hb : ((bytesOf l v)[i]! == c.toUInt8) = Nat.beq (strAt l v i) c := by
      rw [hi, natBeq_dec, Bool.eq_iff_iff, beq_iff_eq, decide_eq_true_eq]
      constructor
      · intro h
        have := congrArg UInt8.toNat h
        simp at this
        omega
      · intro h; rw [h]
    rw [List.range'_succ, List.find?_cons, hb]
    show _ = Value.int .i64 (bsel (Nat.beq (strAt l v i) c) (.ofNat i) (idxByteA l v c k (i + 1)))
    rw [bsel_eq]
    cases hq : Nat.beq (strAt l v i) c with
    | true => rfl
    | false => simp only [Bool.false_eq_true, if_false]; exact idxByteA_eq l v c hc k (i + 1) (by omega)
theorem idxByte_ok (hrun : ∀ (s : ByteArray) (c : Int) w, (callFunc f #[.string s, .int .u8 c]).run P w = .ok (.value (match (List.range s.size).find? fun i => s[i]! == c.toNat.toUInt8 with | some i => goInt i | none => goInt (-1))) w) : OneOk P X f idxByteX := oneOk_pure fun ih args h v h' hr => by
  unfold idxByteX at hr
  split at hr
  · obtain ⟨h0, hr⟩ := tst_eq.1 hr
    cases hr
    rw [band_eq, Bool.and_eq_true, natBlt_eq] at h0
    obtain ⟨h0, hc⟩ := h0
    obtain rfl := kindEq_eq h0
    refine ⟨rfl, fun ρ xs hx => ?_⟩
    obtain ⟨y, ys, h1, h2, rfl⟩ := denL_cons_eq.1 hx
    obtain ⟨y2, ys2, h3, h4, rfl⟩ := denL_cons_eq.1 h2
    cases h4
    rw [den_str] at h1
    rw [den_int] at h3
    cases h1; cases h3
    refine ⟨_, den_int _ _ _, fun w => ?_⟩
    rw [show ([_, _] : List Value).toArray = #[_, _] from rfl, hrun, bytesOf_size, List.range_eq_range', ← idxByteA_eq _ _ _ hc _ 0 (by omega)]
    rfl
  · cases hr
end
noncomputable section
def cntA (l v c : Nat) : Nat := Nat.rec (motive := fun _ => Nat) 0 (fun n ih => bsel (Nat.beq (v / 256 ^ n % 256) c) (ih + 1) ih) l
def cntByteX : CallH → List AV → AH → R (AV × AH) := fun _ args h => match args with
  | [.str l v, .int k (.ofNat c)] => tst 415 (band (kindEq k .u8) (Nat.blt c 256)) (.ok (.int .i64 (.ofNat (cntA l v c)), h))
  | _ => .err [416]
def isAnyBox (o : AO) : Bool := match o with
  | .box _ true [.anyI _] => true
  | _ => false
def anyAt (g : Nat) (h : AH) : Bool := match Q.get (pathOf g) h.tr with
  | some o => isAnyBox o
  | none => false
def idxCond (g : Nat) (args : List AV) (h : AH) : Bool := match args with
  | [.str l v, .str m u] => band (Nat.ble m l) (band (Nat.blt l 4294967281) (band (Nat.beq (v / 256 ^ (l - m) % 256 ^ m) (u % 256 ^ m)) (anyAt g h)))
  | _ => false
def indexX (g : Nat) (a : AFn) : CallH → List AV → AH → R (AV × AH) := fun ih args h => bsel (idxCond g args h) (.ok (.int .i64 (.ofNat 0), h)) (runFn ih noCall a args h)
end
section
variable {P : Program} {X : Ext} {f : FuncId}
theorem cntA_eq (v c : Nat) (hc : c < 256) : ∀ l, cntA l v c = (bytesL l v).count c.toUInt8
  | 0 => rfl
  | n + 1 => by
    have hb : Nat.beq (v / 256 ^ n % 256) c = (UInt8.ofNat (v / 256 ^ n) == c.toUInt8) := by
      rw [natBeq_dec, Bool.eq_iff_iff, beq_iff_eq, decide_eq_true_eq]
      constructor
      · intro h; apply UInt8.toNat_inj.1; simp [h]; omega
      · intro h
        have := congrArg UInt8.toNat h
        simp at this
        omega
    show bsel (Nat.beq (v / 256 ^ n % 256) c) (cntA n v c + 1) (cntA n v c) = _
    rw [bsel_eq, hb, bytesL, List.count_cons, cntA_eq v c hc n]
    split <;> simp_all
theorem cntByte_ok (hrun : ∀ (s : ByteArray) (c : Int) w, (callFunc f #[.string s, .int .u8 c]).run P w = .ok (.value (.int .i64 (Lib.countByte s.data.toList c.toNat.toUInt8))) w) : OneOk P X f cntByteX := oneOk_pure fun ih args h v h' hr => by
  unfold cntByteX at hr
  split at hr
  · obtain ⟨h0, hr⟩ := tst_eq.1 hr
    cases hr
    rw [band_eq, Bool.and_eq_true, natBlt_eq] at h0
    obtain ⟨h0, hc⟩ := h0
    obtain rfl := kindEq_eq h0
    refine ⟨rfl, fun ρ xs hx => ?_⟩
    obtain ⟨y, ys, h1, h2, rfl⟩ := denL_cons_eq.1 hx
    obtain ⟨y2, ys2, h3, h4, rfl⟩ := denL_cons_eq.1 h2
    cases h4
    rw [den_str] at h1
    rw [den_int] at h3
    cases h1; cases h3
    refine ⟨_, den_int _ _ _, fun w => ?_⟩
    rw [show ([_, _] : List Value).toArray = #[_, _] from rfl, hrun, bytesOf_data, cntA_eq _ _ hc]
    rfl
  · cases hr
theorem index_prefix : ∀ {s sub : List UInt8}, sub.isPrefixOf s = true → Lib.index s sub = 0
  | [], sub, h => by
    unfold Lib.index
    cases sub with
    | nil => rfl
    | cons b l => simp at h
  | b :: l, sub, h => by
    unfold Lib.index
    rw [if_pos h]
theorem index_ok {g : Nat} {a : AFn} (hfn : FnOk P f a) (hg : g < P.globals.size) {fn : Func} {c : Code} (hf : P.funcs[f]? = some fn) (hname : (fn.name == "runtime.NumGoroutine") = false) (hb : fn.body = some c)
    (hrun : ∀ (s sub : ByteArray) (m : Int) (w : World), s.size < 4294967281 → w.cell? ⟨g, 0, none⟩ = some (.int .i64 m) → Calls P f #[.string s, .string sub] w fun e w' => e = .returned (.int .i64 (Lib.index s.data.toList sub.data.toList)) ∧ w' = w) : OneOk P X f (indexX g a) :=
  oneOk_calls hf hname hb fun ih hc args h v h' hr => by
  unfold indexX at hr
  rw [bsel_eq] at hr
  split at hr
  · rename_i hcond
    unfold idxCond at hcond
    split at hcond
    · rename_i l v m u
      cases hr
      simp only [band_eq, Bool.and_eq_true, natBle_eq, natBlt_eq, natBeq_eq] at hcond
      obtain ⟨hml, hl, hp, ha⟩ := hcond
      refine ⟨Nat.le_refl _, fun ρ w xs mem _ hx => ?_⟩
      obtain ⟨y, ys, h1, h2, rfl⟩ := denL_cons_eq.1 hx
      obtain ⟨y2, ys2, h3, h4, rfl⟩ := denL_cons_eq.1 h2
      cases h4
      rw [den_str] at h1 h3
      cases h1; cases h3
      obtain ⟨o, q1, q2⟩ : ∃ o, Q.get (pathOf g) h.tr = some o ∧ isAnyBox o = true := by
        unfold anyAt at ha
        split at ha
        · rename_i o e; exact ⟨o, e, ha⟩
        · cases ha
      obtain ⟨cp, hρ⟩ := mem.glob g (by omega)
      have hob := mem.obj _ _ _ q1 hρ
      obtain ⟨e, b, rfl⟩ : ∃ e b, o = .box e true [.anyI b] := by
        unfold isAnyBox at q2
        split at q2
        · exact ⟨_, _, rfl⟩
        · cases q2
      obtain ⟨cs, t, z, k1, k2, k3, k4⟩ := hob
      obtain ⟨hlt, _, x, k5, k6⟩ := k4 0 _ rfl
      simp only [den, Option.map_eq_some_iff] at k6
      obtain ⟨lc, _, rfl⟩ := k6
      have hcell : w.cell? ⟨g, 0, none⟩ = some (.int .i64 (decInt lc.cap)) := by
        unfold World.cell?
        simp only [k1]
        simpa using k5
      refine Calls.mono (hrun _ _ _ w (by rw [bytesOf_size]; exact hl) hcell) fun ev w' ⟨he, hw⟩ => ?_
      subst hw
      refine ⟨ρ, _, he, Step.refl _ _ _, mem, ?_⟩
      rw [den_int]
      have hpre : (bytesL m u).isPrefixOf (bytesL l v) = true := by
        rw [List.isPrefixOf_iff_prefix, List.prefix_iff_eq_take, bytesL_length]
        have e1 := bytesL_sub l v 0 m (Nat.zero_le _) hml
        rw [Nat.sub_zero, List.drop_zero] at e1
        rw [← e1]
        exact bytesL_inj.2 (by rw [Nat.mod_mod, hp])
      rw [bytesOf_data, bytesOf_data, index_prefix hpre]
      rfl
    · cases hcond
  · exact ⟨runFn_mono hc.mono (fun df h h' hd => by rw [(noDefers hd).2]; exact Nat.le_refl _) hfn hr, fun ρ w xs m hfr hx => (fn_calls hc defOk_none hfn hr m hfr hx).2⟩
end
end Go.AX
/- The abstract executor: a call without arguments that answers true from the sentinels alone: its garbage is let go. -/
namespace Go.AX
open Go.RowKit
noncomputable section
def isTrueR (r : R (AV × AH)) : Bool := R.rec (motive := fun _ => Bool) (fun p => AV.rec (motive_1 := fun _ => Bool) (motive_2 := fun _ => Unit) (fun b => b) (fun _ _ => false) (fun _ _ => false) (fun _ _ => false) false (fun _ _ => false) false (fun _ _ _ _ => false) (fun _ _ _ _ => false) false (fun _ => false) (fun _ _ _ _ _ => false) false (fun _ _ _ => false) false (fun _ _ => false) (fun _ _ => false) (fun _ _ => false) (fun _ _ => false) (fun _ _ => false) (fun _ => false) () (fun _ _ _ _ => ()) p.1) (fun _ => false) r
theorem isTrueR_eq {r : R (AV × AH)} (h : isTrueR r = true) : ∃ h', r = .ok (.bool true, h') := by
  cases r with
  | err l => cases h
  | ok p =>
    obtain ⟨v, h'⟩ := p
    cases v with
    | bool b => have h : b = true := h; subst h; exact ⟨h', rfl⟩
    | _ => cases h
def isGlobBox (ev pt : TypeId) (id : Id) (o : AO) : Bool := match o with
  | .box e true [.iface t (.ptr b 0)] => band (Nat.beq e ev) (band (Nat.beq t pt) (idEq b id))
  | _ => false
def isStrBox (et : TypeId) (l v : Nat) (o : AO) : Bool := match o with
  | .box e true [.str m u] => band (Nat.beq e et) (band (Nat.beq m l) (Nat.beq u v))
  | _ => false
def onSome (f : AO → Bool) (x : Option AO) : Bool := Option.rec (motive := fun _ => Bool) false f x
theorem onSome_eq {f : AO → Bool} {x : Option AO} (h : onSome f x = true) : ∃ o, x = some o ∧ f o = true := by
  cases x with
  | none => cases h
  | some o => exact ⟨o, rfl, h⟩
def sentsIn (ev pt et base : Nat) (sg : Nat → Bool) (s : Nat → Nat × Nat) (h : AH) (n : Nat) : Bool := Nat.rec (motive := fun _ => Bool) true (fun g ih => band (bsel (sg g) (band (onSome (isGlobBox ev pt (pathOf (base + g))) (Q.get (pathOf g) h.tr)) (onSome (isStrBox et (s g).1 (s g).2) (Q.get (pathOf (base + g)) h.tr))) true) ih) n
theorem isGlobBox_eq {ev pt : TypeId} {id : Id} {o : AO} (h : isGlobBox ev pt id o = true) : o = .box ev true [.iface pt (.ptr id 0)] := by
  unfold isGlobBox at h
  split at h
  · rw [band_eq, band_eq, Bool.and_eq_true, Bool.and_eq_true, natBeq_eq, natBeq_eq] at h
    obtain ⟨h1, h2, h3⟩ := h
    have h3 := idEq_eq h3
    subst h1; subst h2; subst h3
    rfl
  · cases h
theorem isStrBox_eq {et : TypeId} {l v : Nat} {o : AO} (h : isStrBox et l v o = true) : o = .box et true [.str l v] := by
  unfold isStrBox at h
  split at h
  · rw [band_eq, band_eq, Bool.and_eq_true, Bool.and_eq_true, natBeq_eq, natBeq_eq, natBeq_eq] at h
    obtain ⟨rfl, rfl, rfl⟩ := h
    rfl
  · cases h
theorem sentsIn_eq {ev pt et base : Nat} {sg : Nat → Bool} {s : Nat → Nat × Nat} {h : AH} : ∀ {n : Nat}, sentsIn ev pt et base sg s h n = true → ∀ g, g < n → sg g = true → Q.get (pathOf g) h.tr = some (.box ev true [.iface pt (.ptr (pathOf (base + g)) 0)]) ∧ Q.get (pathOf (base + g)) h.tr = some (.box et true [.str (s g).1 (s g).2])
  | 0, _, g, hg, _ => by omega
  | n + 1, hs, g, hg, hq => by
    have hs : band (bsel (sg n) (band (onSome (isGlobBox ev pt (pathOf (base + n))) (Q.get (pathOf n) h.tr)) (onSome (isStrBox et (s n).1 (s n).2) (Q.get (pathOf (base + n)) h.tr))) true) (sentsIn ev pt et base sg s h n) = true := hs
    rw [band_eq, Bool.and_eq_true] at hs
    obtain ⟨h0, h3⟩ := hs
    by_cases e : g = n
    · subst e
      rw [hq] at h0
      have h0 : band (onSome (isGlobBox ev pt (pathOf (base + g))) (Q.get (pathOf g) h.tr)) (onSome (isStrBox et (s g).1 (s g).2) (Q.get (pathOf (base + g)) h.tr)) = true := h0
      rw [band_eq, Bool.and_eq_true] at h0
      obtain ⟨h1, h2⟩ := h0
      obtain ⟨o, q1, q2⟩ := onSome_eq h1
      obtain ⟨o', q3, q4⟩ := onSome_eq h2
      rw [q1, q3, isGlobBox_eq q2, isStrBox_eq q4]
      exact ⟨rfl, rfl⟩
    · exact sentsIn_eq h3 g (by omega) hq
theorem h00_get {ev pt et base n : Nat} {sg : Nat → Bool} {s : Nat → Nat × Nat} {p : Id} {ob : AO} (hp : Q.get p (h00 ev pt et base n sg s).tr = some ob) : ∃ g, (g < n ∧ sg g = true) ∧ ((p = pathOf g ∧ ob = .box ev true [.iface pt (.ptr (pathOf (base + g)) 0)]) ∨ (p = pathOf (base + g) ∧ ob = .box et true [.str (s g).1 (s g).2])) := by
  rcases sents_get _ _ p ob hp with h1 | ⟨g, v, h1, h2⟩
  · have h1 : Q.get p (.nil : Q AO) = some ob := h1
    simp at h1
  · obtain ⟨i, hi, he⟩ := List.mem_map.1 h1
    cases he
    rw [List.mem_filter] at hi
    exact ⟨_, ⟨by simpa using hi.1, hi.2⟩, h2⟩
def rhoCut (N : Nat) (ρ : Rho) : Rho := fun p => if num p < N then ρ p else none
theorem mem_cut {P : Program} {ρ : Rho} {h : AH} {w : World} {ev pt et n : Nat} {sg : Nat → Bool} {s : Nat → Nat × Nat} (m : Mem P ρ h w) (hs : sentsIn ev pt et (P.globals.size + 1) sg s h n = true) :
    Mem P (rhoCut (P.globals.size + 1 + n) ρ) (h00 ev pt et (P.globals.size + 1) n sg s) w ∧ (∀ cb, ¬ Wr (rhoCut (P.globals.size + 1 + n) ρ) (h00 ev pt et (P.globals.size + 1) n sg s) cb) ∧ ∀ h', Free (rhoCut (P.globals.size + 1 + n) ρ) (h00 ev pt et (P.globals.size + 1) n sg s) h' := by
  have hin := sentsIn_eq hs
  have sub : ∀ p ob, Q.get p (h00 ev pt et (P.globals.size + 1) n sg s).tr = some ob → Q.get p h.tr = some ob := by
    intro p ob hp
    obtain ⟨g, hg, ⟨rfl, rfl⟩ | ⟨rfl, rfl⟩⟩ := h00_get hp
    · exact (hin g hg.1 hg.2).1
    · exact (hin g hg.1 hg.2).2
  have lt : ∀ p ob, Q.get p (h00 ev pt et (P.globals.size + 1) n sg s).tr = some ob → num p < P.globals.size + 1 + n := by
    intro p ob hp
    obtain ⟨g, hg, ⟨rfl, rfl⟩ | ⟨rfl, rfl⟩⟩ := h00_get hp <;> (rw [num_pathOf]; omega)
  have cut : ∀ p l, rhoCut (P.globals.size + 1 + n) ρ p = some l → ρ p = some l := by
    intro p l hl
    unfold rhoCut at hl
    split at hl
    · exact hl
    · cases hl
  have keep : ∀ p, num p < P.globals.size + 1 + n → rhoCut (P.globals.size + 1 + n) ρ p = ρ p := fun p hp => by unfold rhoCut; rw [if_pos hp]
  refine ⟨⟨fun p ob l hp hl => ?_, fun p p' ob ob' l l' hp hp' hl hl' hne => m.apart p p' ob ob' l l' (sub p ob hp) (sub p' ob' hp') (cut p l hl) (cut p' l' hl') hne, fun g hg => ?_, fun p ob hp => ?_⟩, fun cb ⟨p, ob, l, hp, hro, _, _⟩ => ?_, fun h' p h1 h2 => ?_⟩
  · have ho := m.obj p ob l (sub p ob hp) (cut p l hl)
    obtain ⟨g, hg, ⟨rfl, rfl⟩ | ⟨rfl, rfl⟩⟩ := h00_get hp
    · obtain ⟨cs, e', z, h1, h2, h3, h4⟩ := ho
      refine ⟨cs, e', z, h1, h2, h3, fun i v hv => ?_⟩
      obtain ⟨g1, g2, x, g3, g4⟩ := h4 i v hv
      refine ⟨g1, g2, x, g3, ?_⟩
      cases i with
      | zero =>
        simp at hv; subst hv
        simp only [den] at g4 ⊢
        rw [keep _ (by rw [num_pathOf]; omega)]
        exact g4
      | succ i => simp at hv
    · obtain ⟨cs, e', z, h1, h2, h3, h4⟩ := ho
      refine ⟨cs, e', z, h1, h2, h3, fun i v hv => ?_⟩
      obtain ⟨g1, g2, x, g3, g4⟩ := h4 i v hv
      refine ⟨g1, g2, x, g3, ?_⟩
      cases i with
      | zero => simp at hv; subst hv; simpa [den] using g4
      | succ i => simp at hv
  · obtain ⟨c, hc⟩ := m.glob g hg
    exact ⟨c, by rw [keep _ (by rw [num_pathOf]; omega)]; exact hc⟩
  · unfold h00
    rw [sents_nx]
    show num p < num (pathOf _)
    rw [num_pathOf]
    exact lt p ob hp
  · obtain ⟨g, hg, ⟨rfl, rfl⟩ | ⟨rfl, rfl⟩⟩ := h00_get hp <;> cases hro
  · unfold h00 at h1
    rw [sents_nx] at h1
    have h1 : num (pathOf (P.globals.size + 1 + n)) ≤ num p := h1
    rw [num_pathOf] at h1
    unfold rhoCut
    rw [if_neg (by omega)]
def closedX (ev pt et base n : Nat) (sg : Nat → Bool) (s : Nat → Nat × Nat) : CallH → List AV → AH → R (AV × AH) := fun _ args h => match args with
  | [] => tst 440 (sentsIn ev pt et base sg s h n) (.ok (.bool true, h))
  | _ => .err [441]
end
end Go.AX
/- The abstract executor: one operation of a piece, by its place, put as a constant. -/
namespace Go.AX
noncomputable section
def putAt (i j : Nat) (o : List AOper) (d : Dst) (v : AV) (l : List ACode) : List ACode := l.take i ++ .ops (o.take j ++ .op d (.pur (C v)) :: o.drop (j + 1)) :: l.drop (i + 1)
theorem split_at {α : Type} {l : List α} {i : Nat} {x : α} (h : l[i]? = some x) : l = l.take i ++ x :: l.drop (i + 1) := by
  obtain ⟨hlt, rfl⟩ := List.getElem?_eq_some_iff.1 h
  rw [← List.drop_eq_getElem_cons hlt, List.take_append_drop]
theorem swap_at {call : CallH} {l : List ACode} {s : St} (i j : Nat) {o : List AOper} {d : Dst} {f : CallH → List AV → Q AV → AH → R (AV × AH)} {v : AV} (h1 : l[i]? = some (.ops o)) (h2 : o[j]? = some (.op d (.mem f)))
    (hn : isNorm (ahead call (l.take i) (o.take j) s) = true) (hv : f call (stOf (ahead call (l.take i) (o.take j) s)).l (stOf (ahead call (l.take i) (o.take j) s)).tm (stOf (ahead call (l.take i) (o.take j) s)).hp = .ok (v, (stOf (ahead call (l.take i) (o.take j) s)).hp)) :
    runL call l s = runL call (putAt i j o d v l) s := by
  have e1 := split_at h1
  have e2 := split_at h2
  unfold putAt
  rw [← swap_mem hn hv, ← e2, ← e1]
theorem runFn_flat {call callD : CallH} {a : AFn} {args : List AV} {h : AH} (hn : args.length ≤ a.nt) : runFn call callD a args h = endFn callD a.res (runL call (flat a.code) ⟨[], argsTm args 0 .nil, h, []⟩) := by
  unfold runFn
  rw [runA_flat]
  rw [show Nat.ble (len args) a.nt = true by rw [natBle_eq, len_eq]; exact hn]
  rfl
end
end Go.AX
/- What a statement asks behind a call that turns nothing below. -/
namespace Go.AX
open Go.ChangeShapes Go.WideShapes Go.ChangeAt Go.RowKit
theorem post_of_below {H : Type} {enc : TypeId × Value → H} {P : Program} {f : Func} {s : ChangeSpec} {apart fresh handsOn : Bool} {W W' : World} {args : Array Value} {v : Value} {ds gs : List (DataW H)} {before pa pv : List MemPlace}
    (hW : DataW.Whole enc P f.params.toList s.vars apart W args.toList ds gs before)
    (hres : ∀ (b : Nat) (sp : Nat → Bool) (hd : Bool), DataW.TrodAll enc P W' b sp hd f.resultTypes.toList (v.resultList f.resultTypes.size) (s.fn H (ds ++ gs)).results [])
    (hargs : ∀ sp : Nat → Bool, (∀ p ∈ before, sp p.block = true) → DataW.TrodAll enc P W' 0 sp true f.params.toList args.toList (s.fn H (ds ++ gs)).args pa)
    (hvars : ∀ sp : Nat → Bool, (∀ p ∈ before, sp p.block = true) → DataW.TrodVars enc P W' sp s.vars (s.fn H (ds ++ gs)).vars pv)
    (hps : before = pa ++ pv) (hb : Below W.heap.size W W') :
    s.post enc P f apart fresh handsOn false W args v W' := by
  have hold : ∀ p ∈ before, (fun b => decide (b < W.heap.size)) p.block = true := fun p hp => by simpa using hW.lt p hp
  refine ⟨ds, gs, before, [], pa, pv, hW, hres _ _ _, hargs _ hold, hvars _ hold, World.keptBut_mono (fun p hp => ⟨hp, ?_⟩) (hb.frame (· ∈ before)), fun h => by cases h⟩
  rw [hps, List.mem_append] at hp
  exact Or.inr hp
theorem denL_ints (ρ : Rho) : ∀ l : List Int, denL ρ (l.map fun n => AV.int .i64 n) = some (l.map fun n => Value.int .i64 n)
  | [] => rfl
  | _ :: l => denL_cons_eq.2 ⟨_, _, den_int _ _ _, denL_ints ρ l, rfl⟩
end Go.AX
/- Memory at entry: the sentinels, tables of whole numbers, the handle of the type 'error'; errors.As by its contract; a closed call. -/
namespace Go.AX
open Go.RowKit
noncomputable section
structure Tab where
  g : Nat
  tt : TypeId
  k : IntKind
  zs : List Int
  un : Bool
def Tab.box (e : Tab) : AO := .box e.tt true (bsel e.un [.anyI (pathOf e.g)] (e.zs.map fun z => AV.int e.k z))
def addT (l : List Tab) (h : AH) : AH := List.rec (motive := fun _ => AH) h (fun e _ ih => ⟨Q.set (pathOf e.g) (some e.box) ih.tr, ih.nx⟩) l
theorem addT_nx : ∀ (l : List Tab) (h : AH), (addT l h).nx = h.nx
  | [], _ => rfl
  | _ :: l, h => addT_nx l h
theorem addT_get {h : AH} {p : Id} {ob : AO} : ∀ {l : List Tab}, Q.get p (addT l h).tr = some ob → (∃ e ∈ l, p = pathOf e.g ∧ ob = e.box) ∨ Q.get p h.tr = some ob
  | [], hp => .inr hp
  | e :: l, hp => by
    have hp : Q.get p (Q.set (pathOf e.g) (some e.box) (addT l h).tr) = some ob := hp
    rw [Q.get_set] at hp
    split at hp
    · rename_i e1; cases hp; exact .inl ⟨e, List.mem_cons_self .., e1, rfl⟩
    · rcases addT_get hp with ⟨e', h1, h2⟩ | h1
      · exact .inl ⟨e', List.mem_cons_of_mem _ h1, h2⟩
      · exact .inr h1
def Tab.vals (e : Tab) : Array Value := (e.zs.map fun z => Value.int e.k z).toArray
def Tab.valsIn (e : Tab) (vs : Array Value) : Prop := if e.un = true then ∃ m, vs = #[.int .i64 m] else vs = e.vals
def numOf (v : Option Value) : Nat := match v with
  | some (.int .i64 m) => encInt m
  | _ => 0
def capOf (W : World) (g : Nat) : Nat := match W.heap[g]? with
  | some (.cells cs _ _) => numOf cs[0]?
  | _ => 0
theorem tabBox_ok {ρ : Rho} {W : World} {e : Tab} {vs : Array Value} {t : TypeId} {z c : Nat} (h : W.heap[e.g]? = some (.cells vs t (z, z))) (hv : e.valsIn vs) (hr : ρ (pathOf e.g) = some ⟨e.g, 0, capOf W e.g⟩) : ObjOk ρ ⟨e.g, 0, c⟩ W e.box := by
  unfold Tab.valsIn at hv
  unfold Tab.box
  rw [bsel_eq]
  split at hv
  · rename_i hu
    obtain ⟨m, rfl⟩ := hv
    rw [if_pos hu]
    refine ⟨_, t, z, h, by simp, ⟨fun h => (by cases h), fun h => (by simp at h)⟩, fun i v hv => ?_⟩
    cases i with
    | zero =>
      simp at hv; subst hv
      refine ⟨by simp, rfl, .int .i64 m, by simp, ?_⟩
      have hc : capOf W e.g = encInt m := by unfold capOf; rw [h]; rfl
      simp only [den, hr, Option.map_some, hc, decInt_enc]
    | succ i => simp at hv
  · rename_i hu
    subst hv
    rw [if_neg hu]
    refine ⟨_, t, z, h, by simp [Tab.vals], ⟨fun h => (by cases h), fun _ => ⟨rfl, by simp [Tab.vals]⟩⟩, fun i v hv => ?_⟩
    simp only [List.getElem?_map, Option.map_eq_some_iff] at hv
    obtain ⟨z, hz, rfl⟩ := hv
    have hl := (List.getElem?_eq_some_iff.1 hz).1
    exact ⟨by simpa using hl, rfl, .int e.k z, by simp [Tab.vals, hz], den_int _ _ _⟩
def TabsOk (P : Program) (W : World) (n : Nat) (sg : Nat → Bool) (l : List Tab) : Prop := ∀ e ∈ l, e.g < P.globals.size ∧ (e.g < n → sg e.g = false) ∧ ∃ t vs, W.heap[e.g]? = some (.cells vs t (0, 0)) ∧ e.valsIn vs
theorem vals_string {e : Tab} {vs : Array Value} {i : Nat} {s : ByteArray} (hv : e.valsIn vs) : vs[i]? ≠ some (.string s) := by
  intro h
  unfold Tab.valsIn at hv
  split at hv
  · obtain ⟨m, rfl⟩ := hv
    cases i with
    | zero => simp at h
    | succ i => simp at h
  · subst hv
    simp only [Tab.vals, List.getElem?_toArray, List.getElem?_map, Option.map_eq_some_iff] at h
    obtain ⟨z, _, hz⟩ := h
    cases hz
theorem mem_tabs {P : Program} {W : World} {n : Nat} {sg : Nat → Bool} {ev pt et : TypeId} {b o : Nat → Nat} {s : Nat → Nat × Nat} {l : List Tab} (h : LaidOk P W n sg pt b o s) (hfar : ∀ g g', g < n → g' < n → sg g = true → sg g' = true → b g ≠ g') (ht : TabsOk P W n sg l) :
    Mem P (rho0 (P.globals.size + 1) n b o (capOf W)) (addT l (h00 ev pt et (P.globals.size + 1) n sg s)) W ∧ ∀ p ob, Q.get p (addT l (h00 ev pt et (P.globals.size + 1) n sg s)).tr = some ob → ob.ro = true ∧ num p < P.globals.size + 1 + n := by
  obtain ⟨m, hw⟩ := mem_laid (ev := ev) (et := et) h hfar
  have r1 : ∀ g, g < P.globals.size + 1 → rho0 (P.globals.size + 1) n b o (capOf W) (pathOf g) = some ⟨g, 0, capOf W g⟩ := fun g hg => by unfold rho0; rw [num_pathOf, if_pos hg]
  have far : ∀ e ∈ l, ∀ p ob lc, Q.get p (h00 ev pt et (P.globals.size + 1) n sg s).tr = some ob → rho0 (P.globals.size + 1) n b o (capOf W) p = some lc → lc.cb ≠ e.g := by
    intro e he p ob lc hp hl hq
    obtain ⟨h1, h2, t, vs, h3, h4⟩ := ht e he
    obtain ⟨g, ⟨hg, hs⟩, ⟨rfl, rfl⟩ | ⟨rfl, rfl⟩⟩ := h00_get hp
    · have := h.le
      rw [r1 g (by omega)] at hl
      cases hl
      have hq : g = e.g := hq
      subst hq
      rw [h2 hg] at hs; cases hs
    · unfold rho0 at hl
      rw [num_pathOf, if_neg (by omega), if_pos (by omega)] at hl
      cases hl
      have hq : b (P.globals.size + 1 + g - (P.globals.size + 1)) = e.g := hq
      rw [Nat.add_sub_cancel_left] at hq
      obtain ⟨cs, t', z, k1, k2⟩ := h.sent g hg hs
      rw [hq, h3] at k1
      cases k1
      exact vals_string h4 k2
  have hro : ∀ p ob, Q.get p (addT l (h00 ev pt et (P.globals.size + 1) n sg s)).tr = some ob → ob.ro = true ∧ num p < P.globals.size + 1 + n := by
    intro p ob hp
    rcases addT_get hp with ⟨e, he, rfl, rfl⟩ | hp
    · obtain ⟨h1, _⟩ := ht e he
      exact ⟨rfl, by rw [num_pathOf]; omega⟩
    · obtain ⟨g, hg, ⟨rfl, rfl⟩ | ⟨rfl, rfl⟩⟩ := h00_get hp <;> (have := h.le; exact ⟨rfl, by rw [num_pathOf]; omega⟩)
  refine ⟨⟨fun p ob lc hp hl => ?_, fun p p' ob ob' lc lc' hp hp' hl hl' hne => ?_, m.glob, fun p ob hp => ?_⟩, hro⟩
  · rcases addT_get hp with ⟨e, he, rfl, rfl⟩ | hp
    · obtain ⟨h1, h2, t, vs, h3, h4⟩ := ht e he
      have hr := r1 e.g (by omega)
      rw [hr] at hl
      cases hl
      exact tabBox_ok h3 h4 hr
    · exact m.obj p ob lc hp hl
  · rcases addT_get hp with ⟨e, he, rfl, rfl⟩ | hp <;> rcases addT_get hp' with ⟨e', he', rfl, rfl⟩ | hp'
    · have h1 := (ht e he).1
      have h2 := (ht e' he').1
      rw [r1 e.g (by omega)] at hl
      rw [r1 e'.g (by omega)] at hl'
      cases hl; cases hl'
      exact .inl fun e1 => hne (by rw [show e.g = e'.g from e1])
    · have h1 := (ht e he).1
      rw [r1 e.g (by omega)] at hl
      cases hl
      exact .inl fun e1 => far e he p' ob' lc' hp' hl' e1.symm
    · have h1 := (ht e' he').1
      rw [r1 e'.g (by omega)] at hl'
      cases hl'
      exact .inl (far e' he' p ob lc hp hl)
    · exact m.apart p p' ob ob' lc lc' hp hp' hl hl' hne
  · rw [addT_nx]
    unfold h00
    rw [sents_nx]
    show num p < num (pathOf _)
    rw [num_pathOf]
    exact (hro p ob hp).2
def handO (ev rt : TypeId) (N tid : Nat) : AO := .box ev true [.iface rt (.agg [.ptr (pathOf N) tid])]
def h03 (ev pt et size n : Nat) (sg : Nat → Bool) (s : Nat → Nat × Nat) (l : List Tab) (gh ev' rt tid : Nat) : AH := ⟨Q.set (pathOf gh) (some (handO ev' rt size tid)) (addT l (h00 ev pt et (size + 1) n sg s)).tr, pathOf (size + 1 + n)⟩
def handV (size rt tid : Nat) : Value := .iface rt (.agg #[.pointer (some ⟨size, tid, none⟩)])
theorem mem_entry {P : Program} {W : World} {n : Nat} {sg : Nat → Bool} {ev pt et ev' rt tid gh : Nat} {b o : Nat → Nat} {s : Nat → Nat × Nat} {l : List Tab} (h : LaidOk P W n sg pt b o s) (hfar : ∀ g g', g < n → g' < n → sg g = true → sg g' = true → b g ≠ g') (ht : TabsOk P W n sg l)
    (hg : gh < P.globals.size) (_hs : gh < n → sg gh = false) (hl : ∀ e ∈ l, e.g ≠ gh) {t : TypeId} (hh : W.heap[gh]? = some (.cells #[handV P.globals.size rt tid] t (0, 0))) :
    Mem P (rho0 (P.globals.size + 1) n b o (capOf W)) (h03 ev pt et P.globals.size n sg s l gh ev' rt tid) W ∧ (∀ cb, ¬ Wr (rho0 (P.globals.size + 1) n b o (capOf W)) (h03 ev pt et P.globals.size n sg s l gh ev' rt tid) cb) ∧ ∀ h', Free (rho0 (P.globals.size + 1) n b o (capOf W)) (h03 ev pt et P.globals.size n sg s l gh ev' rt tid) h' := by
  obtain ⟨m, hro⟩ := mem_tabs (ev := ev) (et := et) h hfar ht
  have r1 : ∀ g, g < P.globals.size + 1 → rho0 (P.globals.size + 1) n b o (capOf W) (pathOf g) = some ⟨g, 0, capOf W g⟩ := fun g hg => by unfold rho0; rw [num_pathOf, if_pos hg]
  have get : ∀ p ob, Q.get p (h03 ev pt et P.globals.size n sg s l gh ev' rt tid).tr = some ob → (p = pathOf gh ∧ ob = handO ev' rt P.globals.size tid) ∨ (p ≠ pathOf gh ∧ Q.get p (addT l (h00 ev pt et (P.globals.size + 1) n sg s)).tr = some ob) := by
    intro p ob hp
    have hp : Q.get p (Q.set (pathOf gh) (some (handO ev' rt P.globals.size tid)) (addT l (h00 ev pt et (P.globals.size + 1) n sg s)).tr) = some ob := hp
    rw [Q.get_set] at hp
    split at hp
    · rename_i e; cases hp; exact .inl ⟨e, rfl⟩
    · rename_i e; exact .inr ⟨e, hp⟩
  have far : ∀ p ob lc, p ≠ pathOf gh → Q.get p (addT l (h00 ev pt et (P.globals.size + 1) n sg s)).tr = some ob → rho0 (P.globals.size + 1) n b o (capOf W) p = some lc → lc.cb ≠ gh := by
    intro p ob lc hne hp hlc hq
    rcases addT_get hp with ⟨e, he, rfl, rfl⟩ | hp
    · have h1 := (ht e he).1
      rw [r1 e.g (by omega)] at hlc
      cases hlc
      exact hl e he hq
    · obtain ⟨g, ⟨hg', hs'⟩, ⟨rfl, rfl⟩ | ⟨rfl, rfl⟩⟩ := h00_get hp
      · have := h.le
        rw [r1 g (by omega)] at hlc
        cases hlc
        exact hne (by rw [show g = gh from hq])
      · unfold rho0 at hlc
        rw [num_pathOf, if_neg (by omega), if_pos (by omega)] at hlc
        cases hlc
        have hq : b (P.globals.size + 1 + g - (P.globals.size + 1)) = gh := hq
        rw [Nat.add_sub_cancel_left] at hq
        obtain ⟨cs, t', z, k1, k2⟩ := h.sent g hg' hs'
        rw [hq, hh] at k1
        cases k1
        cases hi : o g with
        | zero => rw [hi] at k2; cases k2
        | succ i => rw [hi] at k2; simp at k2
  refine ⟨⟨fun p ob lc hp hlc => ?_, fun p p' ob ob' lc lc' hp hp' hlc hlc' hne => ?_, m.glob, fun p ob hp => ?_⟩, ?_, ?_⟩
  · rcases get p ob hp with ⟨rfl, rfl⟩ | ⟨hne, hp⟩
    · rw [r1 gh (by omega)] at hlc
      cases hlc
      refine ⟨_, t, 0, hh, by simp, ⟨fun h => (by cases h), fun h => (by simp at h)⟩, fun i v hv => ?_⟩
      cases i with
      | zero =>
        simp at hv; subst hv
        refine ⟨by simp, rfl, handV P.globals.size rt tid, by simp, ?_⟩
        have e1 : den (rho0 (P.globals.size + 1) n b o (capOf W)) (.ptr (pathOf P.globals.size) tid) = some (.pointer (some ⟨P.globals.size, tid, none⟩)) := by
          have := den_ptr (rho0 (P.globals.size + 1) n b o (capOf W)) (r1 P.globals.size (by omega)) tid
          simpa using this
        have e2 : den (rho0 (P.globals.size + 1) n b o (capOf W)) (.agg [.ptr (pathOf P.globals.size) tid]) = some (.agg #[.pointer (some ⟨P.globals.size, tid, none⟩)]) := den_agg (ys := [_]) rfl (denL_cons_eq.2 ⟨_, _, e1, rfl, rfl⟩)
        unfold handV
        simp only [den] at e2 ⊢
        rw [e2]; rfl
      | succ i => simp at hv
    · exact m.obj p ob lc hp hlc
  · rcases get p ob hp with ⟨rfl, rfl⟩ | ⟨hne1, hp⟩ <;> rcases get p' ob' hp' with ⟨rfl, rfl⟩ | ⟨hne2, hp'⟩
    · exact absurd rfl hne
    · rw [r1 gh (by omega)] at hlc
      cases hlc
      exact .inl fun e => far p' ob' lc' hne2 hp' hlc' e.symm
    · rw [r1 gh (by omega)] at hlc'
      cases hlc'
      exact .inl (far p ob lc hne1 hp hlc)
    · exact m.apart p p' ob ob' lc lc' hp hp' hlc hlc' hne
  · show num p < num (pathOf (P.globals.size + 1 + n))
    rw [num_pathOf]
    rcases get p ob hp with ⟨rfl, rfl⟩ | ⟨hne, hp⟩
    · rw [num_pathOf]; omega
    · exact (hro p ob hp).2
  · rintro cb ⟨p, ob, lc, hp, hr, hq, rfl⟩
    rcases get p ob hp with ⟨rfl, rfl⟩ | ⟨hne, hp⟩
    · cases hr
    · rw [(hro p ob hp).1] at hr; cases hr
  · intro h' p q1 _
    have q1 : num (pathOf (P.globals.size + 1 + n)) ≤ num p := q1
    rw [num_pathOf] at q1
    unfold rho0
    rw [if_neg (by omega), if_neg (by omega)]
theorem tab_block {P : Program} {W : World} {laid : List (String × DataW Unit)} {i : Nat} {name : String} {k : IntKind} {zs : List Int} {g : Nat} {tt te : TypeId} {n : Nat} (hl : laidMet P laid W) (hi : laid[i]? = some (name, Lib.tabData k zs))
    (hg : P.globalNamed name = some g) (hty : (P.globals[g]?).map (·.type) = some tt) (ht : P.underlying tt = some (.array n te)) (he : P.underlying te = some (.int k)) (hce : P.cellsOf te = 1) (hct : P.cellsOf tt = n) (h0 : 0 < zs.length) :
    ∃ t, W.heap[g]? = some (.cells (zs.map fun z => Value.int k z).toArray t (0, 0)) := by
  obtain ⟨ps, hv, hnd, hrows⟩ := hl
  obtain ⟨segs, rfl, hseg⟩ := laid_segs hv
  obtain ⟨g', t, cs, fuel, p, e1, e2, e3, e4, e5⟩ := hseg _ _ _ hi
  rw [hg] at e1
  cases e1
  rw [hty] at e2
  cases e2
  have hcs := Lib.cells_of_tab ht he hce hct e4
  have hblk : ∃ t z, W.heap[g]? = some (.cells cs t z) := by
    unfold World.var? at e3
    rw [hg] at e3
    simp only [Option.bind_some] at e3
    split at e3
    · rename_i c t z hb; cases e3; exact ⟨t, z, hb⟩
    · cases e3
  obtain ⟨t, z, hb⟩ := hblk
  have hsz : 0 < cs.size := by
    have := congrArg List.length hcs
    simp at this
    omega
  have hm : MemPlace.cell g 0 ∈ segs.flatten := List.mem_flatten.2 ⟨_, List.mem_of_getElem? e5, List.mem_append_left _ (by simp [MemPlace.row]; exact hsz)⟩
  obtain ⟨c3, t3, hb3⟩ := (hrows g 0 hm).1
  rw [hb] at hb3
  cases hb3
  have hcs' : cs = (zs.map fun z => Value.int k z).toArray := Array.toList_inj.1 (by rw [hcs])
  exact ⟨t, by rw [hb, hcs']⟩
theorem un_block {P : Program} {w : World} {e : Tab} {t : TypeId} {zero : Array Value} (hu : e.un = true) (h : w.ShapedOpen P) (hg : e.g < P.globals.size)
    (h0 : ((begin P (fun _ _ => 0) default).world.heap[e.g]?).bind Obj.row? = some (zero, t)) (hz : zero.size = 1)
    (hb : P.buildable t = true) (hc : P.cellTypes P.depth t = some [t]) (ht : P.underlying t = some (.int .i64)) :
    ∃ t vs, w.heap[e.g]? = some (.cells vs t (0, 0)) ∧ e.valsIn vs := by
  obtain ⟨cs, hh, hs, hr⟩ := h.1 e.g zero t hg h0
  obtain ⟨ts, hts, _, hall⟩ := hr hb
  rw [hc] at hts
  cases hts
  have h1 : 0 < cs.size := by omega
  obtain ⟨u, hu', hok⟩ := hall 0 cs[0] (by simp [h1])
  have : u = t := by simpa using hu'.symm
  subst this
  refine ⟨_, cs, hh, ?_⟩
  unfold Tab.valsIn
  rw [if_pos hu]
  unfold Cell.ok at hok
  rw [ht] at hok
  have hcs : cs = #[cs[0]] := by
    apply Array.ext
    · rw [hs, hz]; rfl
    · intro i q1 q2
      have : i = 0 := by simpa using q2
      subst this; rfl
  cases hv : cs[0] <;> rw [hv] at hok <;> simp at hok
  case int k' n => exact ⟨n, by rw [hcs, hv, hok.1]⟩
theorem calls_entry {P : Program} {X : Ext} {call : CallH} (hc : CallOk P X call) {f : FuncId} {a : AFn} (hfn : FnOk P f a) {laid : List (String × DataW Unit)} {n : Nat} {sg : Nat → Bool} {ev pt et ev' rt tid gh : Nat} {idx : Nat → Nat} {txt : Nat → List UInt8} (hs : SentsAre P laid n sg pt idx txt) {l : List Tab} {args : List AV} {xs : List Value} (hx : ∀ ρ, denL ρ args = some xs)
    (hg : gh < P.globals.size) (hsg : gh < n → sg gh = false) (hlg : ∀ e ∈ l, e.g ≠ gh) {W : World} (hl : laidMet P laid W) (ht : TabsOk P W n sg l) (hh : ∃ t, W.heap[gh]? = some (.cells #[handV P.globals.size rt tid] t (0, 0)))
    (hr : isTrueR (runFn call noCall a args (h03 ev pt et P.globals.size n sg (fun g => ((txt g).length, encL (txt g) 0)) l gh ev' rt tid)) = true) : Calls P f xs.toArray W fun e w' => e = .returned (.bool true) ∧ Below W.heap.size W w' := by
  obtain ⟨h', hr'⟩ := isTrueR_eq hr
  obtain ⟨b, o, h1, h2⟩ := laidOk_of hs hl
  obtain ⟨t, hh⟩ := hh
  obtain ⟨m, hw, hf⟩ := mem_entry (ev := ev) (et := et) (ev' := ev') h1 h2 ht hg hsg hlg hh
  exact Calls.mono (fn_calls hc defOk_none hfn hr' m (hf h') (hx _)).2 fun e w' hg => good_true hw hg
def tabIn (h : AH) (e : Tab) : Bool := onSome (objSame e.box) (Q.get (pathOf e.g) h.tr)
def closedT (ev pt et base n : Nat) (sg : Nat → Bool) (s : Nat → Nat × Nat) (l : List Tab) : CallH → List AV → AH → R (AV × AH) := fun _ args h => match args with
  | [] => tst 440 (band (sentsIn ev pt et base sg s h n) (allB (tabIn h) l)) (.ok (.bool true, h))
  | _ => .err [441]
theorem tab_den {ρ : Rho} {e : Tab} {i N n : Nat} {v : AV} {x : Value} (hlt : e.g < N) (hv : (bsel e.un [AV.anyI (pathOf e.g)] (e.zs.map fun z => AV.int e.k z))[i]? = some v) (hx : den ρ v = some x) : den (rhoCut (N + 1 + n) ρ) v = some x := by
  rw [bsel_eq] at hv
  split at hv
  · have keep : rhoCut (N + 1 + n) ρ (pathOf e.g) = ρ (pathOf e.g) := by unfold rhoCut; rw [if_pos (by rw [num_pathOf]; omega)]
    cases i with
    | zero =>
      simp at hv; subst hv
      simp only [den] at hx ⊢
      rw [keep]; exact hx
    | succ i => simp at hv
  · simp only [List.getElem?_map, Option.map_eq_some_iff] at hv
    obtain ⟨z, _, rfl⟩ := hv
    rw [den_int] at hx ⊢
    exact hx
theorem mem_cutT {P : Program} {ρ : Rho} {h : AH} {w : World} {ev pt et n : Nat} {sg : Nat → Bool} {s : Nat → Nat × Nat} {l : List Tab} (m : Mem P ρ h w) (hs : sentsIn ev pt et (P.globals.size + 1) sg s h n = true) (ht : allB (tabIn h) l = true) (hlt : ∀ e ∈ l, e.g < P.globals.size) :
    Mem P (rhoCut (P.globals.size + 1 + n) ρ) (addT l (h00 ev pt et (P.globals.size + 1) n sg s)) w ∧ (∀ cb, ¬ Wr (rhoCut (P.globals.size + 1 + n) ρ) (addT l (h00 ev pt et (P.globals.size + 1) n sg s)) cb) ∧ ∀ h', Free (rhoCut (P.globals.size + 1 + n) ρ) (addT l (h00 ev pt et (P.globals.size + 1) n sg s)) h' := by
  obtain ⟨m0, w0, f0⟩ := mem_cut (ev := ev) (pt := pt) (et := et) (n := n) (sg := sg) (s := s) m hs
  have hin := sentsIn_eq hs
  have tin : ∀ e ∈ l, Q.get (pathOf e.g) h.tr = some e.box := by
    intro e he
    obtain ⟨ob, h1, h2⟩ := onSome_eq (allB_eq ht e he)
    rw [h1, ← objSame_eq h2]
  have sub : ∀ p ob, Q.get p (addT l (h00 ev pt et (P.globals.size + 1) n sg s)).tr = some ob → Q.get p h.tr = some ob := by
    intro p ob hp
    rcases addT_get hp with ⟨e, he, rfl, rfl⟩ | hp
    · exact tin e he
    · obtain ⟨g, hg, ⟨rfl, rfl⟩ | ⟨rfl, rfl⟩⟩ := h00_get hp
      · exact (hin g hg.1 hg.2).1
      · exact (hin g hg.1 hg.2).2
  have cut : ∀ p k, rhoCut (P.globals.size + 1 + n) ρ p = some k → ρ p = some k := by
    intro p k hk
    unfold rhoCut at hk
    split at hk
    · exact hk
    · cases hk
  refine ⟨⟨fun p ob k hp hk => ?_, fun p p' ob ob' k k' hp hp' hk hk' hne => m.apart p p' ob ob' k k' (sub p ob hp) (sub p' ob' hp') (cut p k hk) (cut p' k' hk') hne, m0.glob, fun p ob hp => ?_⟩, fun cb ⟨p, ob, k, hp, hr, _, _⟩ => ?_, fun h' p h1 h2 => f0 h' p (by rw [addT_nx] at h1; exact h1) h2⟩
  · rcases addT_get hp with ⟨e, he, rfl, rfl⟩ | hp
    · obtain ⟨cs, e', z, h1, h2, h3, h4⟩ := m.obj _ _ k (tin e he) (cut _ _ hk)
      refine ⟨cs, e', z, h1, h2, h3, fun i v hv => ?_⟩
      obtain ⟨g1, g2, x, g3, g4⟩ := h4 i v hv
      refine ⟨g1, g2, x, g3, ?_⟩
      exact tab_den (hlt e he) hv g4
    · exact m0.obj p ob k hp hk
  · rcases addT_get hp with ⟨e, he, rfl, rfl⟩ | hp
    · rw [addT_nx]
      unfold h00
      rw [sents_nx]
      show num (pathOf e.g) < num (pathOf _)
      rw [num_pathOf, num_pathOf]
      have := hlt e he
      omega
    · rw [addT_nx]; exact m0.wf p ob hp
  · rcases addT_get hp with ⟨e, he, rfl, rfl⟩ | hp
    · cases hr
    · obtain ⟨g, hg, ⟨rfl, rfl⟩ | ⟨rfl, rfl⟩⟩ := h00_get hp <;> cases hr
theorem closedT_ok {P : Program} {X X1 : Ext} {tab : FuncId → Option AFn} {f : FuncId} {fn : Func} {c : Code} {ev pt et n k : Nat} {sg : Nat → Bool} {s : Nat → Nat × Nat} {l : List Tab} (hf : P.funcs[f]? = some fn) (hname : (fn.name == "runtime.NumGoroutine") = false) (hb : fn.body = some c)
    (hX1 : ExtOk P X1) (ht : ∀ f a, tab f = some a → FnOk P f a) (hXf : X1 f = none) (hlt : ∀ e ∈ l, e.g < P.globals.size) (hr : isTrueR (callN tab X1 k f [] (addT l (h00 ev pt et (P.globals.size + 1) n sg s))) = true) : OneOk P X f (closedT ev pt et (P.globals.size + 1) n sg s l) :=
  oneOk_calls hf hname hb fun _ _ args h v h' hc => by
    unfold closedT at hc
    split at hc
    · obtain ⟨h1, h2⟩ := tst_eq.1 hc
      cases h2
      rw [band_eq, Bool.and_eq_true] at h1
      refine ⟨Nat.le_refl _, fun ρ w xs m _ hx => ?_⟩
      obtain ⟨hF, hr'⟩ := isTrueR_eq hr
      obtain ⟨m1, m2, m3⟩ := mem_cutT m h1.1 h1.2 hlt
      have hx : some [] = some xs := hx
      cases hx
      refine Calls.mono (calls_of_run hX1 ht hXf hr' m1 (m3 hF) (xs := []) rfl) fun e w' hg => ?_
      obtain ⟨he, hb⟩ := good_true m2 hg
      obtain ⟨m', hs⟩ := m.grown hb.os hb.tape hb.output hb.size hb.block
      exact ⟨ρ, .bool true, he, hs, m', den_bool ρ true⟩
    · cases hc
def isHand (rt N tid : Nat) (o : AO) : Bool := match o with
  | .box _ true [.iface t (.agg [.ptr b k])] => band (Nat.beq t rt) (band (idEq b (pathOf N)) (Nat.beq k tid))
  | _ => false
def isBox1 (o : AO) : Bool := match o with
  | .box _ false [_] => true
  | _ => false
def asX (size gh rt tid ty pty : Nat) : CallH → List AV → AH → R (AV × AH) := fun _ args h => match args with
  | [.nilIface, _] => .ok (.bool false, h)
  | [.iface t (.ptr e k), .iface u (.ptr b 0)] => tst 420 (band (Nat.beq t ty) (band (Nat.beq u pty) (onSome (isHand rt size tid) (Q.get (pathOf gh) h.tr)))) ((h.obj b).bind fun o => tst 421 (isBox1 o) ((storeO 0 [.ptr e k] o).bind fun o' => .ok (.bool true, h.put b o')))
  | _ => .err [422]
theorem as_ok {P : Program} {X : Ext} {f : FuncId} {fn : Func} {c : Code} {gh rt tid ty pty : Nat} (hf : P.funcs[f]? = some fn) (hname : (fn.name == "runtime.NumGoroutine") = false) (hb : fn.body = some c) (hgl : gh < P.globals.size)
    (nil : ∀ (t : Value) (w : World), Calls P f #[.nilIface, t] w fun e w' => e = .returned (.bool false) ∧ w' = w)
    (hit : ∀ (e t : Addr) (old : Value) (w : World), w.cell? ⟨gh, 0, none⟩ = some (handV P.globals.size rt tid) → w.cell? t = some old → w.frozen? t = false → Calls P f #[.iface ty (.pointer (some e)), .iface pty (.pointer (some t))] w fun ev w' => ev = .returned (.bool true) ∧ ∃ a b c d, w' = ((((w.alloc a).alloc b).alloc c).alloc d).setCell t (.pointer (some e))) :
    OneOk P X f (asX P.globals.size gh rt tid ty pty) :=
  oneOk_calls hf hname hb fun _ _ args h v h' hc => by
    unfold asX at hc
    split at hc
    · cases hc
      refine ⟨Nat.le_refl _, fun ρ w xs m _ hx => ?_⟩
      obtain ⟨y, ys, h1, h2, rfl⟩ := denL_cons_eq.1 hx
      obtain ⟨y2, ys2, h3, h4, rfl⟩ := denL_cons_eq.1 h2
      cases h4
      have h1 : some Value.nilIface = some y := by simpa only [den] using h1
      cases h1
      refine Calls.mono (nil y2 w) fun e w' ⟨he, hw⟩ => ?_
      subst hw
      exact ⟨ρ, .bool false, he, Step.refl ρ _ _, m, den_bool ρ false⟩
    · rename_i t e k u b
      obtain ⟨h0, hc⟩ := tst_eq.1 hc
      obtain ⟨o, h1, hc⟩ := bind_eq.1 hc
      obtain ⟨h2, hc⟩ := tst_eq.1 hc
      obtain ⟨o', h3, hc⟩ := bind_eq.1 hc
      cases hc
      simp only [band_eq, Bool.and_eq_true, natBeq_eq] at h0
      obtain ⟨rfl, rfl, h0⟩ := h0
      have h1 := AX.Q.at_eq.1 h1
      refine ⟨Nat.le_refl _, fun ρ w xs m _ hx => ?_⟩
      obtain ⟨y, ys, k1, k2, rfl⟩ := denL_cons_eq.1 hx
      obtain ⟨y2, ys2, k3, k4, rfl⟩ := denL_cons_eq.1 k2
      cases k4
      simp only [den, Option.map_eq_some_iff] at k1 k3
      obtain ⟨_, ⟨le, hle, rfl⟩, rfl⟩ := k1
      obtain ⟨_, ⟨lb, hlb, rfl⟩, rfl⟩ := k3
      -- the handle
      obtain ⟨oh, q1, q2⟩ := onSome_eq h0
      have hand : w.cell? ⟨gh, 0, none⟩ = some (handV P.globals.size rt tid) := by
        unfold isHand at q2
        split at q2
        · rename_i e1 t1 b1 k1
          simp only [band_eq, Bool.and_eq_true, natBeq_eq] at q2
          obtain ⟨rfl, q3, rfl⟩ := q2
          have q3 := idEq_eq q3
          subst q3
          obtain ⟨cg, hcg⟩ := m.glob gh (by omega)
          obtain ⟨cs, e', z, g1, g2, g3, g4⟩ := m.obj _ _ _ q1 hcg
          obtain ⟨_, _, x, g5, g6⟩ := g4 0 _ rfl
          obtain ⟨cz, hcz⟩ := m.glob P.globals.size (by omega)
          have e1 : den ρ (.ptr (pathOf P.globals.size) k1) = some (.pointer (some ⟨P.globals.size, k1, none⟩)) := by
            have := den_ptr ρ hcz k1
            simpa using this
          have e2 : den ρ (.agg [.ptr (pathOf P.globals.size) k1]) = some (.agg #[.pointer (some ⟨P.globals.size, k1, none⟩)]) := den_agg (ys := [_]) rfl (denL_cons_eq.2 ⟨_, _, e1, rfl, rfl⟩)
          have e3 : den ρ (.iface t1 (.agg [.ptr (pathOf P.globals.size) k1])) = some (handV P.globals.size t1 k1) := by
            unfold handV
            simp only [den] at e2 ⊢
            rw [e2]; rfl
          rw [e3] at g6
          rw [cell_of_block g1, Option.some.inj g6]
          simpa using g5
        · cases q2
      -- the target
      have hob : ∃ cs e' z, w.heap[lb.cb]? = some (.cells cs e' (z, z)) ∧ lb.co < cs.size := by
        have := m.obj b o lb h1 hlb
        unfold isBox1 at h2
        split at h2
        · obtain ⟨cs, e', z, g1, g2, _⟩ := this
          exact ⟨cs, e', z, g1, by simp at g2; omega⟩
        · cases h2
      obtain ⟨cs, e', z, g1, g2⟩ := hob
      have hcell : w.cell? ⟨lb.cb, lb.co + 0, none⟩ = some cs[lb.co] := by
        rw [cell_of_block g1]
        simp [g2]
      have hfz : w.frozen? ⟨lb.cb, lb.co + 0, none⟩ = false := by rw [frozen_of_block g1]; simp
      refine Calls.mono (hit ⟨le.cb, le.co + k, none⟩ ⟨lb.cb, lb.co + 0, none⟩ _ w hand hcell hfz) fun ev w' ⟨he, a1, a2, a3, a4, hw⟩ => ?_
      have hsz : w.heap.size ≤ ((((w.alloc a1).alloc a2).alloc a3).alloc a4).heap.size := by
        show w.heap.size ≤ ((((w.heap.push a1).push a2).push a3).push a4).size
        simp only [Array.size_push]; omega
      have hold : ∀ j, j < w.heap.size → ((((w.alloc a1).alloc a2).alloc a3).alloc a4).heap[j]? = w.heap[j]? := by
        intro j hj
        show ((((w.heap.push a1).push a2).push a3).push a4)[j]? = _
        simp only [Array.getElem?_push, Array.size_push]
        rw [if_neg (by omega), if_neg (by omega), if_neg (by omega), if_neg (by omega)]
      obtain ⟨m1, s1⟩ := m.grown (w' := (((w.alloc a1).alloc a2).alloc a3).alloc a4) rfl rfl rfl hsz hold
      have hden : denL ρ [.ptr e k] = some [.pointer (some ⟨le.cb, le.co + k, none⟩)] := denL_cons_eq.2 ⟨_, _, den_ptr ρ hle k, rfl, rfl⟩
      obtain ⟨w2, r1, r2, r3⟩ := storeO_mem m1 hlb h1 h3 hden rfl
      have hlt := (Array.getElem?_eq_some_iff.1 g1).1
      have r4 := store_run (P := P) (v := .pointer (some ⟨le.cb, le.co + k, none⟩)) (o := lb.co) (w := (((w.alloc a1).alloc a2).alloc a3).alloc a4) (by rw [hold _ hlt]; exact g1) g2 (by omega) rfl
      simp only [storeCells, Sem.run_bind, addr_add, Nat.add_zero, r4, Result.andThen_ok, Sem.run_pure] at r1
      cases r1
      subst hw
      exact ⟨ρ, .bool true, he, s1.trans r3, r2, den_bool ρ true⟩
    · cases hc
end
end Go.AX
