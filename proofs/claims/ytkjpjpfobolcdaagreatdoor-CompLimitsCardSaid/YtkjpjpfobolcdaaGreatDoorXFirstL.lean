/- All functions reached are what their texts compile to. -/
import Derived.Test.YtkjpjpfobolcdaaGreatDoorKA0L
import Derived.Test.YtkjpjpfobolcdaaGreatDoorKA1L
import Derived.Test.YtkjpjpfobolcdaaGreatDoorKA2L
import Derived.Test.YtkjpjpfobolcdaaGreatDoorKA3L
import Derived.Test.YtkjpjpfobolcdaaGreatDoorXEntL
import Derived.Test.YtkjpjpfobolcdaaGreatDoorF81WalkL
import Derived.Test.YtkjpjpfobolcdaaGreatDoorAsCompL
import Derived.Test.YtkjpjpfobolcdaaGreatDoorProg
import Derived.KernelRfl
import Derived.Laws.Externs
namespace Go.Proofs.YtkjpjpfobolcdaaGreatDoor
open Go.AX
set_option maxRecDepth 100000
theorem ok_cons {p : Nat × AFn} {l : List (Nat × AFn)} (h : FnOk Tryz.prog p.1 p.2) (hl : ∀ q, q ∈ l → FnOk Tryz.prog q.1 q.2) : ∀ q, q ∈ p :: l → FnOk Tryz.prog q.1 q.2 := fun q hq => by
  rcases List.mem_cons.1 hq with rfl | hq
  · exact h
  · exact hl q hq
theorem ok_nil : ∀ q, q ∈ ([] : List (Nat × AFn)) → FnOk Tryz.prog q.1 q.2 := fun q hq => by cases hq
theorem tabL_ok : ∀ q, q ∈ tabL → FnOk Tryz.prog q.1 q.2 :=
  ok_cons k4 (ok_cons k5 (ok_cons k10 (ok_cons k11 (ok_cons k12 (ok_cons k15 (ok_cons k16 (ok_cons k17 (ok_cons k18 (ok_cons k19 (ok_cons k20 (ok_cons k22 (ok_cons k24 (ok_cons k25 (ok_cons k26 (ok_cons k27 (ok_cons k30 (ok_cons k31 (ok_cons k32 (ok_cons k33 (ok_cons k34 (ok_cons k35 (ok_cons k36 (ok_cons k37 (ok_cons k38 (ok_cons k39 (ok_cons k40 (ok_cons k41 (ok_cons k43 (ok_cons k44 (ok_cons k45 (ok_cons k46 (ok_cons k47 (ok_cons k48 (ok_cons k49 (ok_cons k50 (ok_cons k51 (ok_cons k52 (ok_cons k53 (ok_cons k54 (ok_cons k55 (ok_cons k56 (ok_cons k58 (ok_cons k59 (ok_cons k60 (ok_cons k61 (ok_cons k62 (ok_cons k63 (ok_cons k64 (ok_cons k65 (ok_cons k66 (ok_cons k67 (ok_cons k68 (ok_cons k69 (ok_cons k70 (ok_cons k71 (ok_cons k73 (ok_cons k74 (ok_cons k75 (ok_cons k76 (ok_cons k77 (ok_cons k78 (ok_cons k79 (ok_cons k80 (ok_cons k82 (ok_cons k83 (ok_cons k84 (ok_cons k85 (ok_cons k86 (ok_cons k87 (ok_cons k88 (ok_cons k89 (ok_cons k90 (ok_cons k91 (ok_cons k92 (ok_cons k93 (ok_cons k94 (ok_cons k95 (ok_cons k96 (ok_cons k97 (ok_cons k98 (ok_cons k99 (ok_cons k101 (ok_cons k102 (ok_cons k103 (ok_cons k104 (ok_cons k107 (ok_cons k108 (ok_cons k109 (ok_cons k110 (ok_cons k111 (ok_cons k112 (ok_cons k114 (ok_cons k115 (ok_cons k116 (ok_cons k117 (ok_cons k118 (ok_cons k119 (ok_cons k120 (ok_cons k121 (ok_cons k122 (ok_cons k125 (ok_cons k126 (ok_cons k132 (ok_cons k133 (ok_cons k134 (ok_cons k135 (ok_cons k136 (ok_cons k137 (ok_cons k138 (ok_cons k139 (ok_cons k140 (ok_cons k141 (ok_cons k142 (ok_cons k143 (ok_cons k144 (ok_cons k145 (ok_cons k146 (ok_cons k147 (ok_cons k148 (ok_cons k149 (ok_cons k150 (ok_cons k151 (ok_cons k152 (ok_cons k153 (ok_cons k154 (ok_cons k155 (ok_cons k156 (ok_cons k157 (ok_cons k158 (ok_cons k159 (ok_cons k160 (ok_cons k161 (ok_cons k162 (ok_cons k163 (ok_cons k164 (ok_cons k165 (ok_cons k166 (ok_cons k167 (ok_cons k169 (ok_cons k170 (ok_cons k172 (ok_cons k173 (ok_cons k174 (ok_cons k175 (ok_cons k176 (ok_cons k177 (ok_cons k179 (ok_cons k180 (ok_cons k181 (ok_cons k183 (ok_cons k184 (ok_cons k185 (ok_cons k186 (ok_cons k187 (ok_cons k188 (ok_cons k189 (ok_cons k190 (ok_cons k191 (ok_cons k192 (ok_cons k193 (ok_cons k194 (ok_cons k195 (ok_cons k196 (ok_cons k197 (ok_cons k201 (ok_cons k202 (ok_cons k203 (ok_cons k204 (ok_cons k205 (ok_cons k206 (ok_cons k207 (ok_cons k208 (ok_cons k212 (ok_cons k213 (ok_cons k214 (ok_cons k215 (ok_cons k216 (ok_cons k217 (ok_cons k218 (ok_cons k219 (ok_cons k220 (ok_cons k221 (ok_cons k222 (ok_cons k223 (ok_cons k224 (ok_cons k225 (ok_cons k226 (ok_cons k227 (ok_cons k228 (ok_cons k229 (ok_cons k230 (ok_cons k231 (ok_cons k232 (ok_cons k234 (ok_cons k235 (ok_cons k236 (ok_cons k237 (ok_cons k238 (ok_cons k239 (ok_cons k240 (ok_cons k241 (ok_cons k242 (ok_cons k243 (ok_cons k245 (ok_cons k247 (ok_cons k248 (ok_cons k249 (ok_cons k250 (ok_cons k251 (ok_cons k252 (ok_cons k253 (ok_cons k254 (ok_cons k255 (ok_cons k256 (ok_cons k257 (ok_cons k260 (ok_cons k261 (ok_cons k262 (ok_cons k272 (ok_cons k273 (ok_cons k274 (ok_cons k275 (ok_cons k276 (ok_cons k278 (ok_cons k279 (ok_cons k280 (ok_cons k281 (ok_cons k282 (ok_cons k283 (ok_cons k284 (ok_cons k285 (ok_cons k286 (ok_cons k288 (ok_cons k290 (ok_cons k291 (ok_cons k293 (ok_cons k294 (ok_cons k295 (ok_cons k296 (ok_cons k297 (ok_cons k298 (ok_cons k299 (ok_cons k300 (ok_cons k302 (ok_cons k303 (ok_cons k305 (ok_cons k306 (ok_cons k307 (ok_cons k309 (ok_cons k312 (ok_cons k313 (ok_cons k314 (ok_cons k315 (ok_cons k316 (ok_cons k318 (ok_cons k319 (ok_cons k321 (ok_cons k322 (ok_cons k323 (ok_cons k324 (ok_cons k325 (ok_cons k349 (ok_cons k350 (ok_cons k351 (ok_cons k352 (ok_cons k353 (ok_cons k356 (ok_cons k357 (ok_cons k358 (ok_cons k359 (ok_cons k365 (ok_cons k366 (ok_cons k367 (ok_cons k369 (ok_cons k370 (ok_cons k371 (ok_cons k372 (ok_cons k373 (ok_cons k374 (ok_cons k375 (ok_cons k376 (ok_cons k377 (ok_cons k378 (ok_cons k379 (ok_cons k380 (ok_cons k381 (ok_cons k382 (ok_cons k383 (ok_cons k387 (ok_cons k388 (ok_cons k389 (ok_cons k390 (ok_cons k391 (ok_cons k392 (ok_cons k395 (ok_cons k396 (ok_cons k397 (ok_cons k398 (ok_cons k400 (ok_cons k402 (ok_cons k403 (ok_cons k404 (ok_cons k405 (ok_cons k407 (ok_cons k408 (ok_cons k409 (ok_cons k431 (ok_cons k438 (ok_cons k448 (ok_cons k451 (ok_cons k452 (ok_cons k453 (ok_cons k456 (ok_cons k462 (ok_cons k463 (ok_cons k464 (ok_cons k465 (ok_cons k466 (ok_cons k467 (ok_cons k471 (ok_cons k472 (ok_cons k473 (ok_cons k474 (ok_cons k475 (ok_cons k476 (ok_cons k477 (ok_cons k478 (ok_cons k479 (ok_cons k480 (ok_cons k482 (ok_cons k483 (ok_cons k484 (ok_cons k503 (ok_cons k504 (ok_cons k505 (ok_cons k506 (ok_cons k507 (ok_cons k511 (ok_cons k512 (ok_cons k514 (ok_cons k516 (ok_cons k517 (ok_cons k518 (ok_cons k519 (ok_cons k534 (ok_cons k536 (ok_cons k537 (ok_cons k553 (ok_nil)))))))))))))))))))))))))))))))))))))))))))))))))))))))))))))))))))))))))))))))))))))))))))))))))))))))))))))))))))))))))))))))))))))))))))))))))))))))))))))))))))))))))))))))))))))))))))))))))))))))))))))))))))))))))))))))))))))))))))))))))))))))))))))))))))))))))))))))))))))))))))))))))))))))))))))))))))))))))))))))))))))))))))))))))))))))))))))
end Go.Proofs.YtkjpjpfobolcdaaGreatDoor
/- The contracts of this seat hold; what the rows' conditions give. -/
namespace Go.Proofs.YtkjpjpfobolcdaaGreatDoor
open Go.AX Go.RowKit
set_option maxRecDepth 100000
theorem globals_size : Tryz.prog.globals.size = 26 := by kernel_rfl
theorem tab_all : ∀ f a, tabAt tabQ f = some a → FnOk Tryz.prog f a := tab_ok tabL_ok
theorem noEscape_run (x : Value) (w : World) : (callFunc 301 #[x]).run Tryz.prog w = .ok (.value x) w := by
  rw [run_callFunc_extern Tryz.func301 (by kernel_rfl) (by kernel_rfl) (by kernel_rfl) (e := Extern.AbiNoEscape.same) (by kernel_rfl)]
  rfl
theorem bits_run (b : Nat) (w : World) : (callFunc 368 #[.float .f64 b]).run Tryz.prog w = .ok (.value (.int .u64 b)) w := by
  rw [run_callFunc_extern Tryz.func368 (by kernel_rfl) (by kernel_rfl) (by kernel_rfl) (e := Extern.MathFloatBits.float64bits) (by kernel_rfl)]
  rfl
theorem fromBits_run (b : Nat) (w : World) : (callFunc 454 #[.int .u64 b]).run Tryz.prog w = .ok (.value (.float .f64 b)) w := by
  rw [run_callFunc_extern Tryz.func454 (by kernel_rfl) (by kernel_rfl) (by kernel_rfl) (e := Extern.MathFloatBits.float64frombits) (by kernel_rfl)]
  rfl
theorem idxByte_run (s : ByteArray) (c : Int) (w : World) : (callFunc 552 #[.string s, .int .u8 c]).run Tryz.prog w = .ok (.value (match (List.range s.size).find? fun i => s[i]! == c.toNat.toUInt8 with | some i => goInt i | none => goInt (-1))) w := by
  rw [run_callFunc_extern Tryz.func552 (by kernel_rfl) (by kernel_rfl) (by kernel_rfl) (e := Extern.BytealgIndexByte.indexByte) (by kernel_rfl)]
  rw [run_indexByte_string]
  have key : ∀ o : Option Nat, Value.int .i64 (match o with | some i => (i : Int) | none => -1) = (match o with | some i => goInt i | none => goInt (-1)) := by
    intro o
    cases o <;> rfl
  exact congrArg (fun v => Result.ok (Next.value v) w) (key _)
theorem ready_ok (X : Ext) : OneOk Tryz.prog X 81 readyA := oneOk_calls Tryz.func81 (by kernel_rfl) rfl fun ih _ args h v h' hr => by
  have hr' := hr
  unfold readyA at hr'
  split at hr'
  · rename_i i b1 o1 b2 o2
    clear hr'
    refine ⟨?_, fun ρ w xs m _ hx => ?_⟩
    · rw [readyA_same hr]; exact Nat.le_refl _
    · obtain ⟨rfl, hc⟩ := ready_walk m hx hr
      refine Calls.mono hc fun e w' ⟨hb, r, he, hv⟩ => ?_
      obtain ⟨m', hs⟩ := m.grown hb.os hb.tape hb.output hb.size hb.block
      exact ⟨ρ, .bool r, he, hs, m', by rw [hv]; exact den_bool ρ r⟩
  · cases hr'
theorem asHit (e t : Addr) (old : Value) (w : World) (hg : w.cell? ⟨9, 0, none⟩ = some (handV Tryz.prog.globals.size 364 37)) (ht : w.cell? t = some old) (hf : w.frozen? t = false) :
    Calls Tryz.prog 72 #[.iface 115 (.pointer (some e)), .iface 175 (.pointer (some t))] w fun ev w' => ev = .returned (.bool true) ∧ ∃ a b c d, w' = ((((w.alloc a).alloc b).alloc c).alloc d).setCell t (.pointer (some e)) := by
  rw [globals_size] at hg
  exact (as_hit e t old w hg ht hf).mono fun ev w' ⟨h1, h2⟩ => ⟨h1, _, _, _, _, h2⟩
theorem as_all (X : Ext) : OneOk Tryz.prog X 72 (asX 26 9 364 37 115 175) := by
  have := as_ok (P := Tryz.prog) (X := X) (gh := 9) (rt := 364) (tid := 37) (ty := 115) (pty := 175) Tryz.func72 (by kernel_rfl) rfl (by rw [globals_size]; omega) as_nil asHit
  rw [globals_size] at this
  exact this
theorem pickX_eq {f : FuncId} {g : CallH → List AV → AH → R (AV × AH)} : ∀ {l : List (Nat × (CallH → List AV → AH → R (AV × AH)))}, pickX f l = some g → ∃ p ∈ l, f = p.1 ∧ g = p.2
  | [], h => by cases h
  | p :: l, h => by
    have h : bsel (Nat.beq f p.1) (some p.2) (pickX f l) = some g := h
    rw [bsel_eq] at h
    split at h
    · rename_i e
      rw [natBeq_eq] at e
      cases h
      exact ⟨p, List.mem_cons_self .., e, rfl⟩
    · obtain ⟨q, h1, h2⟩ := pickX_eq h
      exact ⟨q, List.mem_cons_of_mem _ h1, h2⟩
theorem x1_at (X : Ext) (f : FuncId) (g : CallH → List AV → AH → R (AV × AH)) (h : X1 f = some g) : OneOk Tryz.prog X f g := by
  obtain ⟨p, hp, rfl, rfl⟩ := pickX_eq h
  unfold conts at hp
  simp only [List.mem_cons, List.not_mem_nil, or_false] at hp
  rcases hp with rfl | rfl | rfl | rfl | rfl | rfl | rfl
  · exact fun ih _ args h v h' hr => idExt_ok noEscape_run ih args h v h' hr
  · exact ready_ok X
  · exact num_ok Tryz.func6 (by kernel_rfl) rfl k6
  · exact as_all X
  · exact bits_ok bits_run
  · exact fromBits_ok fromBits_run
  · exact idxByte_ok idxByte_run
theorem ext1 : ExtOk Tryz.prog X1 := fun f g ih h => x1_at X1 f g h ih
end Go.Proofs.YtkjpjpfobolcdaaGreatDoor
/- The example at the head of each statement, once. -/
namespace Go.Proofs.YtkjpjpfobolcdaaGreatDoor
open Go.AX Go.RowKit
set_option maxRecDepth 100000
theorem first_true : isTrueR (callN (tabAt tabQ) X1 200 5 [] H1) = true := by kernel_rfl
theorem tabs_lt : ∀ e ∈ tabs, e.g < Tryz.prog.globals.size := by
  rw [globals_size]
  intro e he
  unfold tabs at he
  simp only [List.mem_cons, List.not_mem_nil, or_false] at he
  rcases he with rfl | rfl | rfl <;> exact Nat.le_of_ble_eq_true (by kernel_rfl)
theorem ext_of {P : Program} {X : Ext} {f : FuncId} {g g' : CallH → List AV → AH → R (AV × AH)} (h : OneOk P X f g) (e : some g = some g') : OneOk P X f g' := by cases e; exact h
theorem x2_at (X : Ext) (f : FuncId) (g : CallH → List AV → AH → R (AV × AH)) (h : X2 f = some g) : OneOk Tryz.prog X f g := by
  unfold X2 at h
  rw [bsel_eq] at h
  split at h
  · rename_i e
    obtain rfl : f = 5 := by simpa using e
    refine ext_of ?_ h
    have := closedT_ok (X := X) (n := 26) (sg := sgL) (s := strOf) (l := tabs) Tryz.func5 (by kernel_rfl) rfl ext1 tab_all (by kernel_rfl) tabs_lt (ev := 37) (pt := 647) (et := 649) (k := 200) (by rw [globals_size]; exact first_true)
    rw [globals_size] at this
    exact this
  · exact x1_at X f g h
theorem ext2 : ExtOk Tryz.prog X2 := fun f g ih h => x2_at X2 f g h ih
end Go.Proofs.YtkjpjpfobolcdaaGreatDoor
