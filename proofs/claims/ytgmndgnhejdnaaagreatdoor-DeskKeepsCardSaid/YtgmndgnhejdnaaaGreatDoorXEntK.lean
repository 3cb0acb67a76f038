/- Memory at entry: the sentinels, the tables, the handle of the type error. -/
import Derived.Test.YtgmndgnhejdnaaaGreatDoorAxF
import Derived.Test.YtgmndgnhejdnaaaGreatDoorAxE
import Derived.Test.YtgmndgnhejdnaaaGreatDoorCComp1K
namespace Go.Proofs.YtgmndgnhejdnaaaGreatDoor
open Go.AX
set_option maxRecDepth 100000
noncomputable section
def txtOf (g : Nat) : List UInt8 := match g with
  | 0 => [110, 111, 32, 115, 117, 99, 104, 32, 119, 111, 114, 100]
  | 1 => [110, 111, 116, 32, 97, 32, 110, 117, 109, 98, 101, 114]
  | 2 => [116, 104, 101, 114, 101, 32, 105, 115, 32, 110, 111, 110, 101]
  | 4 => [110, 111, 32, 115, 117, 99, 104, 32, 102, 111, 114, 109]
  | 5 => [105, 116, 32, 104, 97, 115, 32, 110, 111, 32, 116, 121, 112, 101]
  | 6 => [110, 111, 32, 109, 97, 105, 110, 32, 119, 105, 116, 104, 111, 117, 116, 32, 112, 97, 114, 97, 109, 101, 116, 101, 114, 115]
  | 7 => [116, 111, 111, 32, 109, 97, 110, 121]
  | 8 => [97, 32, 110, 117, 109, 98, 101, 114, 32, 111, 117, 116, 32, 111, 102, 32, 105, 116, 115, 32, 114, 97, 110, 103, 101]
  | 10 => [110, 111, 116, 32, 97, 115, 32, 105, 116, 32, 104, 97, 115, 32, 116, 111, 32, 98, 101]
  | 11 => [116, 111, 111, 32, 100, 101, 101, 112]
  | 12 => [97, 32, 98, 114, 97, 99, 107, 101, 116, 32, 116, 104, 97, 116, 32, 105, 115, 32, 110, 111, 116, 32, 99, 108, 111, 115, 101, 100]
  | 13 => [97, 32, 98, 114, 97, 99, 107, 101, 116, 32, 116, 104, 97, 116, 32, 119, 97, 115, 32, 110, 111, 116, 32, 111, 112, 101, 110, 101, 100]
  | 14 => [110, 111, 116, 32, 97, 32, 110, 97, 109, 101]
  | 15 => [116, 104, 101, 114, 101, 32, 105, 115, 32, 111, 110, 101]
  | 16 => [110, 111, 116, 32, 97, 115, 32, 109, 97, 110, 121, 32, 97, 115, 32, 105, 116, 32, 116, 97, 107, 101, 115]
  | 17 => [110, 111, 116, 32, 98, 111, 117, 110, 100, 44, 32, 111, 114, 32, 98, 111, 117, 110, 100, 32, 116, 119, 105, 99, 101]
  | 18 => [110, 111, 116, 32, 111, 102, 32, 116, 104, 97, 116, 32, 116, 97, 103]
  | 23 => [105, 110, 118, 97, 108, 105, 100, 32, 115, 121, 110, 116, 97, 120]
  | 24 => [118, 97, 108, 117, 101, 32, 111, 117, 116, 32, 111, 102, 32, 114, 97, 110, 103, 101]
  | _ => []
def sgOf (g : Nat) : Bool := match g with
  | 0 => true
  | 1 => true
  | 2 => true
  | 4 => true
  | 5 => true
  | 6 => true
  | 7 => true
  | 8 => true
  | 10 => true
  | 11 => true
  | 12 => true
  | 13 => true
  | 14 => true
  | 15 => true
  | 16 => true
  | 17 => true
  | 18 => true
  | 23 => true
  | 24 => true
  | _ => false
def strOf (g : Nat) : Nat × Nat := ((txtOf g).length, encL (txtOf g) 0)
def tab21 : Tab := ⟨nat_lit 21, nat_lit 413, .u64, [.ofNat (nat_lit 1), .ofNat (nat_lit 10), .ofNat (nat_lit 100), .ofNat (nat_lit 1000), .ofNat (nat_lit 10000), .ofNat (nat_lit 100000), .ofNat (nat_lit 1000000), .ofNat (nat_lit 10000000), .ofNat (nat_lit 100000000), .ofNat (nat_lit 1000000000), .ofNat (nat_lit 10000000000), .ofNat (nat_lit 100000000000), .ofNat (nat_lit 1000000000000), .ofNat (nat_lit 10000000000000), .ofNat (nat_lit 100000000000000), .ofNat (nat_lit 1000000000000000), .ofNat (nat_lit 10000000000000000), .ofNat (nat_lit 100000000000000000), .ofNat (nat_lit 1000000000000000000), .ofNat (nat_lit 10000000000000000000)], false⟩
def tab26 : Tab := ⟨nat_lit 26, nat_lit 457, .u8, [.ofNat (nat_lit 0), .ofNat (nat_lit 1), .ofNat (nat_lit 56), .ofNat (nat_lit 2), .ofNat (nat_lit 57), .ofNat (nat_lit 49), .ofNat (nat_lit 28), .ofNat (nat_lit 3), .ofNat (nat_lit 61), .ofNat (nat_lit 58), .ofNat (nat_lit 42), .ofNat (nat_lit 50), .ofNat (nat_lit 38), .ofNat (nat_lit 29), .ofNat (nat_lit 17), .ofNat (nat_lit 4), .ofNat (nat_lit 62), .ofNat (nat_lit 47), .ofNat (nat_lit 59), .ofNat (nat_lit 36), .ofNat (nat_lit 45), .ofNat (nat_lit 43), .ofNat (nat_lit 51), .ofNat (nat_lit 22), .ofNat (nat_lit 53), .ofNat (nat_lit 39), .ofNat (nat_lit 33), .ofNat (nat_lit 30), .ofNat (nat_lit 24), .ofNat (nat_lit 18), .ofNat (nat_lit 12), .ofNat (nat_lit 5), .ofNat (nat_lit 63), .ofNat (nat_lit 55), .ofNat (nat_lit 48), .ofNat (nat_lit 27), .ofNat (nat_lit 60), .ofNat (nat_lit 41), .ofNat (nat_lit 37), .ofNat (nat_lit 16), .ofNat (nat_lit 46), .ofNat (nat_lit 35), .ofNat (nat_lit 44), .ofNat (nat_lit 21), .ofNat (nat_lit 52), .ofNat (nat_lit 32), .ofNat (nat_lit 23), .ofNat (nat_lit 11), .ofNat (nat_lit 54), .ofNat (nat_lit 26), .ofNat (nat_lit 40), .ofNat (nat_lit 15), .ofNat (nat_lit 34), .ofNat (nat_lit 20), .ofNat (nat_lit 31), .ofNat (nat_lit 10), .ofNat (nat_lit 25), .ofNat (nat_lit 14), .ofNat (nat_lit 19), .ofNat (nat_lit 9), .ofNat (nat_lit 13), .ofNat (nat_lit 8), .ofNat (nat_lit 7), .ofNat (nat_lit 6)], false⟩
def tab27 : Tab := ⟨nat_lit 27, nat_lit 605, .u8, [.ofNat (nat_lit 0), .ofNat (nat_lit 1), .ofNat (nat_lit 28), .ofNat (nat_lit 2), .ofNat (nat_lit 29), .ofNat (nat_lit 14), .ofNat (nat_lit 24), .ofNat (nat_lit 3), .ofNat (nat_lit 30), .ofNat (nat_lit 22), .ofNat (nat_lit 20), .ofNat (nat_lit 15), .ofNat (nat_lit 25), .ofNat (nat_lit 17), .ofNat (nat_lit 4), .ofNat (nat_lit 8), .ofNat (nat_lit 31), .ofNat (nat_lit 27), .ofNat (nat_lit 13), .ofNat (nat_lit 23), .ofNat (nat_lit 21), .ofNat (nat_lit 19), .ofNat (nat_lit 16), .ofNat (nat_lit 7), .ofNat (nat_lit 26), .ofNat (nat_lit 12), .ofNat (nat_lit 18), .ofNat (nat_lit 6), .ofNat (nat_lit 11), .ofNat (nat_lit 5), .ofNat (nat_lit 10), .ofNat (nat_lit 9)], false⟩
def tab3 : Tab := ⟨nat_lit 3, nat_lit 3, .i64, [], true⟩
def tabs : List Tab := [tab3, tab21, tab26, tab27]
def tabQ : Q AFn := tabOf tabL
/-- The functions taken by a contract. -/
def conts : List (Nat × (CallH → List AV → AH → R (AV × AH))) := [(nat_lit 203, idExt), (nat_lit 189, readyA), (nat_lit 8, numX), (nat_lit 183, asX 28 22 516 27 88 315), (nat_lit 296, bitsX), (nat_lit 294, fromBitsX), (nat_lit 173, idxByteX), (nat_lit 172, cntByteX), (nat_lit 79, indexX 3 c79)]
def pickX (f : FuncId) (l : List (Nat × (CallH → List AV → AH → R (AV × AH)))) : Option (CallH → List AV → AH → R (AV × AH)) := List.rec (motive := fun _ => Option (CallH → List AV → AH → R (AV × AH))) none (fun p _ ih => bsel (Nat.beq f p.1) (some p.2) ih) l
def X1 : Ext := fun f => pickX f conts
def X2 : Ext := fun f => bsel (Nat.beq f 5) (some (closedT 27 536 538 29 28 sgOf strOf tabs)) (X1 f)
def call : CallH := callN (tabAt tabQ) X2 200
def H1 : AH := addT tabs (h00 27 536 538 29 28 sgOf strOf)
def HE : AH := h03 27 536 538 28 28 sgOf strOf tabs 22 427 516 27
def baseE : AH → Bool := baseIn 27 536 538 28 28 sgOf strOf tabs 22 516 27
end
end Go.Proofs.YtgmndgnhejdnaaaGreatDoor
