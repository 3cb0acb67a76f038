/- Calls, told beforehand: their ends. -/
import Derived.Test.YtgmndgnhejdnaaaGreatDoorXEntE
import Derived.Test.YtgmndgnhejdnaaaGreatDoorAxF
namespace Go.Proofs.YtgmndgnhejdnaaaGreatDoor
open Go.AX Go.RowKit
set_option maxRecDepth 100000
noncomputable section
def lf (l : List AV) : Q (List AV) := .node (some l) .nil .nil .nil .nil
def ec0 : ME := ⟨[(.str n12 (nat_lit 12500771817734561906124928809))], [], (.tuple [(.agg [.slc0, (.slc [.k4, .k4, .k1, .k1] n0 n1 (.room n0))]), (.slc [.k1, .k4, .k2, .k4] n0 n1 (.room n0)), .nilIface]), [([.k4, .k4, .k1, .k1], (.cells n51 false true n8 n8 .clean (lf [(.str n4 (nat_lit 1835100526)), .slc0, i2, e0, i7, .slc0, .slc0, .slc0]))), ([.k1, .k4, .k2, .k4], (.cells n114 false true n2 n2 .clean (lf [(.str n3 (nat_lit 4812404)), .slc0])))]⟩
def ec1 : ME := ⟨[(.str n12 (nat_lit 12500771817734561906124945449))], [], (.tuple [(.agg [.slc0, .slc0]), .slc0, (.iface n88 (.ptr [.k2, .k3, .k3, .k3] n0))]), [([.k2, .k3, .k3, .k3], (.box n90 false [i0, (.iface n536 (.ptr [.k3, .k3, .k1] n0))]))]⟩
def ec2 : ME := ⟨[(.str n16 (nat_lit 53690406131928416195693974867208710441))], [], (.tuple [(.agg [.slc0, .slc0]), .slc0, (.iface n88 (.ptr [.k2, .k2, .k3, .k2, .k1] n0))]), [([.k2, .k2, .k3, .k2, .k1], (.box n90 false [i0, (.iface n536 (.ptr [.k2, .k4, .k1] n0))]))]⟩
def ec3 : ME := ⟨[(.str n9 (nat_lit 745104063614282721646))], [], (.tuple [(.agg [.slc0, .slc0]), .slc0, (.iface n88 (.ptr [.k3, .k2, .k4] n0))]), [([.k3, .k2, .k4], (.box n90 false [i0, (.iface n536 (.ptr [.k1, .k2, .k2] n0))]))]⟩
def tabC : List ME := [ec0, ec1, ec2, ec3]
def XC : Ext := fun f => bsel (Nat.beq f 51) (some (memoX baseE 57 c51 tabC)) (X2 f)
def call4 : CallH := callN (tabAt tabQ) XC 200
end
end Go.Proofs.YtgmndgnhejdnaaaGreatDoor
