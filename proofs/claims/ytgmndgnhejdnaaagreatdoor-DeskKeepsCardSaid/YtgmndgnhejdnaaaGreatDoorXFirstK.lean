/- All functions reached are what their texts compile to. -/
import Derived.Test.YtgmndgnhejdnaaaGreatDoorKA0K
import Derived.Test.YtgmndgnhejdnaaaGreatDoorKA1K
import Derived.Test.YtgmndgnhejdnaaaGreatDoorKA2K
import Derived.Test.YtgmndgnhejdnaaaGreatDoorKA3K
import Derived.Test.YtgmndgnhejdnaaaGreatDoorXEntK
import Derived.Test.YtgmndgnhejdnaaaGreatDoorF81WalkK
import Derived.Test.YtgmndgnhejdnaaaGreatDoorAsCompK
import Derived.Test.YtgmndgnhejdnaaaGreatDoorTryzShelfK
import Derived.Test.YtgmndgnhejdnaaaGreatDoorProg
import Derived.KernelRfl
import Derived.Laws.Externs
namespace Go.Proofs.YtgmndgnhejdnaaaGreatDoor
open Go.AX
set_option maxRecDepth 100000
theorem ok_cons {p : Nat × AFn} {l : List (Nat × AFn)} (h : FnOk Tryz.prog p.1 p.2) (hl : ∀ q, q ∈ l → FnOk Tryz.prog q.1 q.2) : ∀ q, q ∈ p :: l → FnOk Tryz.prog q.1 q.2 := fun q hq => by
  rcases List.mem_cons.1 hq with rfl | hq
  · exact h
  · exact hl q hq
theorem ok_nil : ∀ q, q ∈ ([] : List (Nat × AFn)) → FnOk Tryz.prog q.1 q.2 := fun q hq => by cases hq
theorem tabL_ok : ∀ q, q ∈ tabL → FnOk Tryz.prog q.1 q.2 :=
  ok_cons k4 (ok_cons k5 (ok_cons k6 (ok_cons k7 (ok_cons k12 (ok_cons k13 (ok_cons k14 (ok_cons k15 (ok_cons k16 (ok_cons k17 (ok_cons k18 (ok_cons k19 (ok_cons k20 (ok_cons k21 (ok_cons k22 (ok_cons k23 (ok_cons k24 (ok_cons k25 (ok_cons k26 (ok_cons k27 (ok_cons k29 (ok_cons k32 (ok_cons k33 (ok_cons k38 (ok_cons k39 (ok_cons k40 (ok_cons k41 (ok_cons k42 (ok_cons k43 (ok_cons k44 (ok_cons k45 (ok_cons k46 (ok_cons k47 (ok_cons k48 (ok_cons k49 (ok_cons k50 (ok_cons k51 (ok_cons k52 (ok_cons k58 (ok_cons k60 (ok_cons k61 (ok_cons k63 (ok_cons k65 (ok_cons k66 (ok_cons k67 (ok_cons k68 (ok_cons k70 (ok_cons k71 (ok_cons k72 (ok_cons k73 (ok_cons k74 (ok_cons k75 (ok_cons k76 (ok_cons k77 (ok_cons k78 (ok_cons k79 (ok_cons k80 (ok_cons k81 (ok_cons k85 (ok_cons k86 (ok_cons k87 (ok_cons k89 (ok_cons k90 (ok_cons k91 (ok_cons k92 (ok_cons k93 (ok_cons k94 (ok_cons k96 (ok_cons k97 (ok_cons k98 (ok_cons k99 (ok_cons k100 (ok_cons k101 (ok_cons k102 (ok_cons k103 (ok_cons k104 (ok_cons k105 (ok_cons k108 (ok_cons k109 (ok_cons k110 (ok_cons k111 (ok_cons k112 (ok_cons k113 (ok_cons k114 (ok_cons k116 (ok_cons k117 (ok_cons k119 (ok_cons k120 (ok_cons k121 (ok_cons k122 (ok_cons k123 (ok_cons k124 (ok_cons k126 (ok_cons k127 (ok_cons k128 (ok_cons k129 (ok_cons k130 (ok_cons k131 (ok_cons k134 (ok_cons k135 (ok_cons k137 (ok_cons k138 (ok_cons k139 (ok_cons k140 (ok_cons k141 (ok_cons k142 (ok_cons k143 (ok_cons k144 (ok_cons k145 (ok_cons k146 (ok_cons k147 (ok_cons k148 (ok_cons k149 (ok_cons k150 (ok_cons k151 (ok_cons k152 (ok_cons k153 (ok_cons k154 (ok_cons k155 (ok_cons k156 (ok_cons k157 (ok_cons k158 (ok_cons k159 (ok_cons k160 (ok_cons k162 (ok_cons k163 (ok_cons k164 (ok_cons k165 (ok_cons k166 (ok_cons k167 (ok_cons k168 (ok_cons k170 (ok_cons k171 (ok_cons k174 (ok_cons k175 (ok_cons k176 (ok_cons k177 (ok_cons k178 (ok_cons k179 (ok_cons k180 (ok_cons k181 (ok_cons k182 (ok_cons k184 (ok_cons k185 (ok_cons k186 (ok_cons k187 (ok_cons k188 (ok_cons k190 (ok_cons k191 (ok_cons k192 (ok_cons k193 (ok_cons k194 (ok_cons k195 (ok_cons k198 (ok_cons k199 (ok_cons k204 (ok_cons k205 (ok_cons k206 (ok_cons k207 (ok_cons k208 (ok_cons k209 (ok_cons k210 (ok_cons k211 (ok_cons k212 (ok_cons k213 (ok_cons k214 (ok_cons k215 (ok_cons k216 (ok_cons k217 (ok_cons k218 (ok_cons k219 (ok_cons k220 (ok_cons k221 (ok_cons k222 (ok_cons k224 (ok_cons k225 (ok_cons k227 (ok_cons k228 (ok_cons k229 (ok_cons k230 (ok_cons k231 (ok_cons k232 (ok_cons k234 (ok_cons k235 (ok_cons k236 (ok_cons k238 (ok_cons k239 (ok_cons k240 (ok_cons k241 (ok_cons k242 (ok_cons k243 (ok_cons k244 (ok_cons k245 (ok_cons k246 (ok_cons k247 (ok_cons k248 (ok_cons k249 (ok_cons k252 (ok_cons k253 (ok_cons k254 (ok_cons k255 (ok_cons k256 (ok_cons k257 (ok_cons k258 (ok_cons k259 (ok_cons k262 (ok_cons k263 (ok_cons k269 (ok_cons k270 (ok_cons k271 (ok_cons k272 (ok_cons k273 (ok_cons k274 (ok_cons k275 (ok_cons k276 (ok_cons k277 (ok_cons k278 (ok_cons k279 (ok_cons k280 (ok_cons k281 (ok_cons k282 (ok_cons k283 (ok_cons k284 (ok_cons k285 (ok_cons k286 (ok_cons k287 (ok_cons k289 (ok_cons k291 (ok_cons k292 (ok_cons k293 (ok_cons k295 (ok_cons k297 (ok_cons k298 (ok_cons k299 (ok_cons k301 (ok_cons k303 (ok_cons k304 (ok_cons k305 (ok_cons k306 (ok_cons k307 (ok_cons k308 (ok_cons k309 (ok_cons k310 (ok_cons k311 (ok_cons k312 (ok_cons k313 (ok_cons k314 (ok_cons k315 (ok_cons k316 (ok_cons k319 (ok_cons k320 (ok_cons k321 (ok_cons k330 (ok_cons k331 (ok_cons k332 (ok_cons k333 (ok_cons k334 (ok_cons k336 (ok_cons k337 (ok_cons k338 (ok_cons k339 (ok_cons k340 (ok_cons k341 (ok_cons k342 (ok_cons k343 (ok_cons k344 (ok_cons k346 (ok_cons k348 (ok_cons k351 (ok_cons k352 (ok_cons k353 (ok_cons k354 (ok_cons k355 (ok_cons k356 (ok_cons k360 (ok_cons k361 (ok_cons k362 (ok_cons k363 (ok_cons k364 (ok_cons k365 (ok_cons k366 (ok_cons k367 (ok_cons k369 (ok_cons k370 (ok_cons k371 (ok_cons k372 (ok_cons k373 (ok_cons k374 (ok_cons k375 (ok_cons k376 (ok_cons k377 (ok_cons k379 (ok_cons k380 (ok_cons k381 (ok_cons k382 (ok_cons k383 (ok_cons k385 (ok_cons k388 (ok_cons k389 (ok_cons k390 (ok_cons k391 (ok_cons k392 (ok_cons k394 (ok_cons k395 (ok_cons k397 (ok_cons k398 (ok_cons k399 (ok_cons k400 (ok_cons k401 (ok_cons k425 (ok_cons k426 (ok_cons k427 (ok_cons k430 (ok_cons k431 (ok_cons k432 (ok_cons k433 (ok_cons k439 (ok_cons k440 (ok_cons k441 (ok_cons k442 (ok_cons k443 (ok_cons k445 (ok_cons k446 (ok_cons k447 (ok_cons k449 (ok_cons k450 (ok_cons k451 (ok_cons k452 (ok_cons k453 (ok_cons k457 (ok_cons k458 (ok_cons k459 (ok_cons k460 (ok_cons k461 (ok_cons k462 (ok_cons k465 (ok_cons k466 (ok_cons k467 (ok_cons k468 (ok_cons k470 (ok_cons k472 (ok_cons k473 (ok_cons k474 (ok_cons k475 (ok_cons k476 (ok_cons k478 (ok_cons k479 (ok_cons k480 (ok_cons k502 (ok_cons k509 (ok_cons k519 (ok_cons k522 (ok_cons k523 (ok_cons k524 (ok_cons k526 (ok_cons k532 (ok_cons k533 (ok_cons k534 (ok_cons k535 (ok_cons k536 (ok_cons k537 (ok_cons k538 (ok_cons k539 (ok_cons k540 (ok_cons k541 (ok_cons k542 (ok_cons k543 (ok_cons k544 (ok_cons k545 (ok_cons k546 (ok_cons k547 (ok_cons k548 (ok_cons k550 (ok_cons k551 (ok_cons k552 (ok_cons k571 (ok_cons k572 (ok_cons k573 (ok_cons k574 (ok_cons k575 (ok_cons k579 (ok_cons k580 (ok_cons k581 (ok_cons k582 (ok_cons k583 (ok_cons k584 (ok_cons k599 (ok_cons k600 (ok_nil))))))))))))))))))))))))))))))))))))))))))))))))))))))))))))))))))))))))))))))))))))))))))))))))))))))))))))))))))))))))))))))))))))))))))))))))))))))))))))))))))))))))))))))))))))))))))))))))))))))))))))))))))))))))))))))))))))))))))))))))))))))))))))))))))))))))))))))))))))))))))))))))))))))))))))))))))))))))))))))))))))))))))))))))))))))))))))))))))))))))))))))))))))))))))))))))))))
end Go.Proofs.YtgmndgnhejdnaaaGreatDoor
/- The contracts of this seat hold. -/
namespace Go.Proofs.YtgmndgnhejdnaaaGreatDoor
open Go.AX Go.RowKit
set_option maxRecDepth 100000
theorem globals_size : Tryz.prog.globals.size = 28 := by kernel_rfl
theorem tab_all : ∀ f a, tabAt tabQ f = some a → FnOk Tryz.prog f a := tab_ok tabL_ok
theorem noEscape_run (x : Value) (w : World) : (callFunc 203 #[x]).run Tryz.prog w = .ok (.value x) w := by
  rw [run_callFunc_extern Tryz.func203 (by kernel_rfl) (by kernel_rfl) (by kernel_rfl) (e := Extern.AbiNoEscape.same) (by kernel_rfl)]
  rfl
theorem bits_run (b : Nat) (w : World) : (callFunc 296 #[.float .f64 b]).run Tryz.prog w = .ok (.value (.int .u64 b)) w := by
  rw [run_callFunc_extern Tryz.func296 (by kernel_rfl) (by kernel_rfl) (by kernel_rfl) (e := Extern.MathFloatBits.float64bits) (by kernel_rfl)]
  rfl
theorem fromBits_run (b : Nat) (w : World) : (callFunc 294 #[.int .u64 b]).run Tryz.prog w = .ok (.value (.float .f64 b)) w := by
  rw [run_callFunc_extern Tryz.func294 (by kernel_rfl) (by kernel_rfl) (by kernel_rfl) (e := Extern.MathFloatBits.float64frombits) (by kernel_rfl)]
  rfl
theorem idxByte_run (s : ByteArray) (c : Int) (w : World) : (callFunc 173 #[.string s, .int .u8 c]).run Tryz.prog w = .ok (.value (match (List.range s.size).find? fun i => s[i]! == c.toNat.toUInt8 with | some i => goInt i | none => goInt (-1))) w := by
  rw [run_callFunc_extern Tryz.func173 (by kernel_rfl) (by kernel_rfl) (by kernel_rfl) (e := Extern.BytealgIndexByte.indexByte) (by kernel_rfl)]
  rw [run_indexByte_string]
  have key : ∀ o : Option Nat, Value.int .i64 (match o with | some i => (i : Int) | none => -1) = (match o with | some i => goInt i | none => goInt (-1)) := by
    intro o
    cases o <;> rfl
  exact congrArg (fun v => Result.ok (Next.value v) w) (key _)
theorem cntByte_run (s : ByteArray) (c : Int) (w : World) : (callFunc 172 #[.string s, .int .u8 c]).run Tryz.prog w = .ok (.value (.int .i64 (Lib.countByte s.data.toList c.toNat.toUInt8))) w := by
  rw [run_callFunc_extern Tryz.func172 (by kernel_rfl) (by kernel_rfl) (by kernel_rfl) (e := Extern.BytealgCount.count) (by kernel_rfl)]
  rw [Lib.run_countString]
  rfl
theorem index_all (X : Ext) : OneOk Tryz.prog X 79 (indexX 3 c79) := index_ok k79 (by rw [globals_size]; omega) Tryz.func79 (by kernel_rfl) rfl fun s sub m w hs hm => Tryz.stringslite_Index s sub m w hs hm
theorem ready_ok (X : Ext) : OneOk Tryz.prog X 189 readyA := oneOk_calls Tryz.func189 (by kernel_rfl) rfl fun ih _ args h v h' hr => by
  have hr' := hr
  unfold readyA at hr'
  split at hr'
  · rename_i i b1 o1 b2 o2
    clear hr'
    refine ⟨?_, fun ρ w xs m _ hx => ?_⟩
    · rw [readyA_same hr]; exact Nat.le_refl _
    · obtain ⟨rfl, hc⟩ := ready_walk m hx hr
      refine Calls.mono hc fun e w' ⟨hb, r, he, hv⟩ => ?_
      obtain ⟨m', hs⟩ := m.grown hb.os hb.tape hb.output hb.size hb.block
      exact ⟨ρ, .bool r, he, hs, m', by rw [hv]; exact den_bool ρ r⟩
  · cases hr'
theorem asHit (e t : Addr) (old : Value) (w : World) (hg : w.cell? ⟨22, 0, none⟩ = some (handV Tryz.prog.globals.size 516 27)) (ht : w.cell? t = some old) (hf : w.frozen? t = false) :
    Calls Tryz.prog 183 #[.iface 88 (.pointer (some e)), .iface 315 (.pointer (some t))] w fun ev w' => ev = .returned (.bool true) ∧ ∃ a b c d, w' = ((((w.alloc a).alloc b).alloc c).alloc d).setCell t (.pointer (some e)) := by
  rw [globals_size] at hg
  exact (as_hit e t old w hg ht hf).mono fun ev w' ⟨h1, h2⟩ => ⟨h1, _, _, _, _, h2⟩
theorem as_all (X : Ext) : OneOk Tryz.prog X 183 (asX 28 22 516 27 88 315) := by
  have := as_ok (P := Tryz.prog) (X := X) (gh := 22) (rt := 516) (tid := 27) (ty := 88) (pty := 315) Tryz.func183 (by kernel_rfl) rfl (by rw [globals_size]; omega) as_nil asHit
  rw [globals_size] at this
  exact this
theorem pickX_eq {f : FuncId} {g : CallH → List AV → AH → R (AV × AH)} : ∀ {l : List (Nat × (CallH → List AV → AH → R (AV × AH)))}, pickX f l = some g → ∃ p ∈ l, f = p.1 ∧ g = p.2
  | [], h => by cases h
  | p :: l, h => by
    have h : bsel (Nat.beq f p.1) (some p.2) (pickX f l) = some g := h
    rw [bsel_eq] at h
    split at h
    · rename_i e
      rw [natBeq_eq] at e
      cases h
      exact ⟨p, List.mem_cons_self .., e, rfl⟩
    · obtain ⟨q, h1, h2⟩ := pickX_eq h
      exact ⟨q, List.mem_cons_of_mem _ h1, h2⟩
theorem x1_at (X : Ext) (f : FuncId) (g : CallH → List AV → AH → R (AV × AH)) (h : X1 f = some g) : OneOk Tryz.prog X f g := by
  obtain ⟨p, hp, rfl, rfl⟩ := pickX_eq h
  unfold conts at hp
  simp only [List.mem_cons, List.not_mem_nil, or_false] at hp
  rcases hp with rfl | rfl | rfl | rfl | rfl | rfl | rfl | rfl | rfl
  · exact fun ih _ args h v h' hr => idExt_ok noEscape_run ih args h v h' hr
  · exact ready_ok X
  · exact num_ok Tryz.func8 (by kernel_rfl) rfl k8
  · exact as_all X
  · exact bits_ok bits_run
  · exact fromBits_ok fromBits_run
  · exact idxByte_ok idxByte_run
  · exact cntByte_ok cntByte_run
  · exact index_all X
theorem ext1 : ExtOk Tryz.prog X1 := fun f g ih h => x1_at X1 f g h ih
end Go.Proofs.YtgmndgnhejdnaaaGreatDoor
/- The example at the head of the statement, once. -/
namespace Go.Proofs.YtgmndgnhejdnaaaGreatDoor
open Go.AX Go.RowKit
set_option maxRecDepth 100000
theorem first_true : isTrueR (callN (tabAt tabQ) X1 200 5 [] H1) = true := by kernel_rfl
theorem tabs_lt : ∀ e ∈ tabs, e.g < Tryz.prog.globals.size := by
  rw [globals_size]
  intro e he
  unfold tabs at he
  simp only [List.mem_cons, List.not_mem_nil, or_false] at he
  rcases he with rfl | rfl | rfl | rfl <;> exact Nat.le_of_ble_eq_true (by kernel_rfl)
theorem ext_of {P : Program} {X : Ext} {f : FuncId} {g g' : CallH → List AV → AH → R (AV × AH)} (h : OneOk P X f g) (e : some g = some g') : OneOk P X f g' := by cases e; exact h
theorem x2_at (X : Ext) (f : FuncId) (g : CallH → List AV → AH → R (AV × AH)) (h : X2 f = some g) : OneOk Tryz.prog X f g := by
  unfold X2 at h
  rw [bsel_eq] at h
  split at h
  · rename_i e
    obtain rfl : f = 5 := by simpa using e
    refine ext_of ?_ h
    have := closedT_ok (X := X) (n := 28) (sg := sgOf) (s := strOf) (l := tabs) Tryz.func5 (by kernel_rfl) rfl ext1 tab_all (by kernel_rfl) tabs_lt (ev := 27) (pt := 536) (et := 538) (k := 200) (by rw [globals_size]; exact first_true)
    rw [globals_size] at this
    exact this
  · exact x1_at X f g h
theorem ext2 : ExtOk Tryz.prog X2 := fun f g ih h => x2_at X2 f g h ih
theorem hand_lt : 22 < Tryz.prog.globals.size := by rw [globals_size]; omega
theorem tabs_ne : ∀ e ∈ tabs, e.g ≠ 22 := by
  intro e he
  unfold tabs at he
  simp only [List.mem_cons, List.not_mem_nil, or_false] at he
  rcases he with rfl | rfl | rfl | rfl <;> exact Nat.ne_of_beq_eq_false (by kernel_rfl)
theorem all_nil {α : Type} {Q : α → Prop} : ∀ e, e ∈ ([] : List α) → Q e := fun e h => by cases h
theorem all_cons {α : Type} {a : α} {l : List α} {Q : α → Prop} (h : Q a) (h2 : ∀ e, e ∈ l → Q e) : ∀ e, e ∈ a :: l → Q e := fun e he => by
  rcases List.mem_cons.1 he with rfl | he
  · exact h
  · exact h2 e he
end Go.Proofs.YtgmndgnhejdnaaaGreatDoor
