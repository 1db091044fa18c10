/- What the functions of this law compute, and their plain laws. Conditions: none. -/
import Derived.KernelRfl
import Derived.Test.YtcklhipdldpkhaaWireBytesP2
namespace Go.Proofs.Ytcklhipdldpkhaa.Rx
open Go
set_option linter.unusedVariables false
set_option maxRecDepth 100000
set_option maxHeartbeats 0
noncomputable def F37 : Fns := addF 81 s81' (addF 80 s80' (addF 79 s79' (addF 78 s78 (addF 77 s77' (addF 76 s76 (F0))))))
theorem F37_ok : FnsOk tau Try.prog F37 := ((((((F0_ok).add ok76 en76).add ok77' en77).add ok78 en78).add ok79' en79).add ok80' en80).add ok81' en81
def an37 : An := (.seq .leaf (.seq (.seq .leaf (.cond (.seq .leaf .leaf) .leaf)) (.seq .leaf (.seq .leaf (.seq .leaf (.seq (.seq .leaf (.cond .leaf .leaf)) (.seq (.seq .leaf (.cond .leaf .leaf)) (.seq (.seq .leaf (.cond (.seq .leaf .leaf) .leaf)) (.seq .leaf .leaf)))))))))
noncomputable def g37 (f : Nat) (k0_z : Bool) (k0_f : Bool) (k0 : List PV) (k1_z : Bool) (k1_f : Bool) (k1 : List PV) (k2_z : Bool) (k2_f : Bool) (k2 : List PV) (b_z : Bool) (b_f : Bool) (b : List PV) (k : Res → Option Res) : Option Res := bif decide (zi b.length > 8192) then k (Res.mk (.tup [.st 54 [.sc (.int .i64 0), .sc (.int .i64 0), .sc (.int .i64 0), .st 34 [.sc (.int .i64 0), .sc (.int .i64 0)], .st 45 [.sc (.int .i64 0), .sc (.int .i64 0)], .sc (.int .i64 0), .sc (.int .i64 0), .st 45 [.sc (.int .i64 0), .sc (.int .i64 0)], .sc (.int .i64 0), .sc (.int .i64 0), .ro 29 true true []], .sc (.int .i64 5)]) [] []) else bif slB b_z b then bif (!b_z || b_z) && byB b then bif (msgE (RS.mk b 0)).e == 0 then bif decide (zi (msgE (RS.mk b 0)).b.length > 0) then k (Res.mk (.tup [.st 54 [.sc (.int .i64 0), .sc (.int .i64 0), .sc (.int .i64 0), .st 34 [.sc (.int .i64 0), .sc (.int .i64 0)], .st 45 [.sc (.int .i64 0), .sc (.int .i64 0)], .sc (.int .i64 0), .sc (.int .i64 0), .st 45 [.sc (.int .i64 0), .sc (.int .i64 0)], .sc (.int .i64 0), .sc (.int .i64 0), .ro 29 true true []], .sc (.int .i64 9)]) [] []) else bif (msgE (RS.mk b 0)).e == 0 then bif chk (C13.mk (fld 0 (RS.mk b 0)) (fld 1 (RS.mk b 0)) (fld 2 (RS.mk b 0)) (fld 3 (RS.mk b 0)) (fld 4 (RS.mk b 0)) (fld 5 (RS.mk b 0)) (fld 6 (RS.mk b 0)) (fld 7 (RS.mk b 0)) (fld 8 (RS.mk b 0)) (fld 9 (RS.mk b 0)) (fld 10 (RS.mk b 0)) (fld 11 (RS.mk b 0)) (fld 12 (RS.mk b 0))) == 0 then bif decide (0 ≤ IntKind.i64.wrap (zi b.length - 32)) && true && decide ((IntKind.i64.wrap (zi b.length - 32)).toNat ≤ b.length) && true then bif allInt IntKind.u8 (keyF (K3.mk [.ro 5 k0_z k0_f k0, .ro 5 k1_z k1_f k1, .ro 5 k2_z k2_f k2] (fld 1 (RS.mk b 0)))) && decide ((keyF (K3.mk [.ro 5 k0_z k0_f k0, .ro 5 k1_z k1_f k1, .ro 5 k2_z k2_f k2] (fld 1 (RS.mk b 0)))).length ≤ 1000000000) && (allInt IntKind.u8 (flat [.ro 5 b_z (b_z || b_f && false) (List.take (IntKind.i64.wrap (zi b.length - 32)).toNat b)]) && decide ((flat [.ro 5 b_z (b_z || b_f && false) (List.take (IntKind.i64.wrap (zi b.length - 32)).toNat b)]).length ≤ 1000000000)) && true then bif decide ((pu IntKind.u8 (macP (ints (keyF (K3.mk [.ro 5 k0_z k0_f k0, .ro 5 k1_z k1_f k1, .ro 5 k2_z k2_f k2] (fld 1 (RS.mk b 0))))) (ints (flat [.ro 5 b_z (b_z || b_f && false) (List.take (IntKind.i64.wrap (zi b.length - 32)).toNat b)])))).length = 32) && decide ((pu IntKind.u8 (msgH (RS.mk b 0))).length = 32) && allInt IntKind.u8 (pu IntKind.u8 (macP (ints (keyF (K3.mk [.ro 5 k0_z k0_f k0, .ro 5 k1_z k1_f k1, .ro 5 k2_z k2_f k2] (fld 1 (RS.mk b 0))))) (ints (flat [.ro 5 b_z (b_z || b_f && false) (List.take (IntKind.i64.wrap (zi b.length - 32)).toNat b)])))) && allInt IntKind.u8 (pu IntKind.u8 (msgH (RS.mk b 0))) && true then bif !eqInts (pu IntKind.u8 (macP (ints (keyF (K3.mk [.ro 5 k0_z k0_f k0, .ro 5 k1_z k1_f k1, .ro 5 k2_z k2_f k2] (fld 1 (RS.mk b 0))))) (ints (flat [.ro 5 b_z (b_z || b_f && false) (List.take (IntKind.i64.wrap (zi b.length - 32)).toNat b)])))) (pu IntKind.u8 (msgH (RS.mk b 0))) then k (Res.mk (.tup [.st 54 [.sc (.int .i64 0), .sc (.int .i64 0), .sc (.int .i64 0), .st 34 [.sc (.int .i64 0), .sc (.int .i64 0)], .st 45 [.sc (.int .i64 0), .sc (.int .i64 0)], .sc (.int .i64 0), .sc (.int .i64 0), .st 45 [.sc (.int .i64 0), .sc (.int .i64 0)], .sc (.int .i64 0), .sc (.int .i64 0), .ro 29 true true []], .sc (.int .i64 14)]) [] []) else bif chk (C13.mk (fld 0 (RS.mk b 0)) (fld 1 (RS.mk b 0)) (fld 2 (RS.mk b 0)) (fld 3 (RS.mk b 0)) (fld 4 (RS.mk b 0)) (fld 5 (RS.mk b 0)) (fld 6 (RS.mk b 0)) (fld 7 (RS.mk b 0)) (fld 8 (RS.mk b 0)) (fld 9 (RS.mk b 0)) (fld 10 (RS.mk b 0)) (fld 11 (RS.mk b 0)) (fld 12 (RS.mk b 0))) != 0 then k (Res.mk (.tup [.st 54 [.sc (.int .i64 0), .sc (.int .i64 0), .sc (.int .i64 0), .st 34 [.sc (.int .i64 0), .sc (.int .i64 0)], .st 45 [.sc (.int .i64 0), .sc (.int .i64 0)], .sc (.int .i64 0), .sc (.int .i64 0), .st 45 [.sc (.int .i64 0), .sc (.int .i64 0)], .sc (.int .i64 0), .sc (.int .i64 0), .ro 29 true true []], .sc (.int .i64 (chk (C13.mk (fld 0 (RS.mk b 0)) (fld 1 (RS.mk b 0)) (fld 2 (RS.mk b 0)) (fld 3 (RS.mk b 0)) (fld 4 (RS.mk b 0)) (fld 5 (RS.mk b 0)) (fld 6 (RS.mk b 0)) (fld 7 (RS.mk b 0)) (fld 8 (RS.mk b 0)) (fld 9 (RS.mk b 0)) (fld 10 (RS.mk b 0)) (fld 11 (RS.mk b 0)) (fld 12 (RS.mk b 0)))))]) [] []) else k (Res.mk (.tup [.st 54 [.sc (.int .i64 (fld 0 (RS.mk b 0))), .sc (.int .i64 (fld 1 (RS.mk b 0))), .sc (.int .i64 (fld 2 (RS.mk b 0))), .st 34 [.sc (.int .i64 (fld 3 (RS.mk b 0))), .sc (.int .i64 (fld 4 (RS.mk b 0)))], .st 45 [.sc (.int .i64 (fld 5 (RS.mk b 0))), .sc (.int .i64 (fld 6 (RS.mk b 0)))], .sc (.int .i64 (fld 7 (RS.mk b 0))), .sc (.int .i64 (fld 8 (RS.mk b 0))), .st 45 [.sc (.int .i64 (fld 9 (RS.mk b 0))), .sc (.int .i64 (fld 10 (RS.mk b 0)))], .sc (.int .i64 (fld 11 (RS.mk b 0))), .sc (.int .i64 (fld 12 (RS.mk b 0))), .ro 29 (bodL (RS.mk b 0)).isEmpty (bodL (RS.mk b 0)).isEmpty (bodL (RS.mk b 0))], .sc (.int .i64 0)]) [] []) else none else none else none else bif chk (C13.mk (fld 0 (RS.mk b 0)) (fld 1 (RS.mk b 0)) (fld 2 (RS.mk b 0)) (fld 3 (RS.mk b 0)) (fld 4 (RS.mk b 0)) (fld 5 (RS.mk b 0)) (fld 6 (RS.mk b 0)) (fld 7 (RS.mk b 0)) (fld 8 (RS.mk b 0)) (fld 9 (RS.mk b 0)) (fld 10 (RS.mk b 0)) (fld 11 (RS.mk b 0)) (fld 12 (RS.mk b 0))) != 0 then k (Res.mk (.tup [.st 54 [.sc (.int .i64 0), .sc (.int .i64 0), .sc (.int .i64 0), .st 34 [.sc (.int .i64 0), .sc (.int .i64 0)], .st 45 [.sc (.int .i64 0), .sc (.int .i64 0)], .sc (.int .i64 0), .sc (.int .i64 0), .st 45 [.sc (.int .i64 0), .sc (.int .i64 0)], .sc (.int .i64 0), .sc (.int .i64 0), .ro 29 true true []], .sc (.int .i64 (chk (C13.mk (fld 0 (RS.mk b 0)) (fld 1 (RS.mk b 0)) (fld 2 (RS.mk b 0)) (fld 3 (RS.mk b 0)) (fld 4 (RS.mk b 0)) (fld 5 (RS.mk b 0)) (fld 6 (RS.mk b 0)) (fld 7 (RS.mk b 0)) (fld 8 (RS.mk b 0)) (fld 9 (RS.mk b 0)) (fld 10 (RS.mk b 0)) (fld 11 (RS.mk b 0)) (fld 12 (RS.mk b 0)))))]) [] []) else k (Res.mk (.tup [.st 54 [.sc (.int .i64 (fld 0 (RS.mk b 0))), .sc (.int .i64 (fld 1 (RS.mk b 0))), .sc (.int .i64 (fld 2 (RS.mk b 0))), .st 34 [.sc (.int .i64 (fld 3 (RS.mk b 0))), .sc (.int .i64 (fld 4 (RS.mk b 0)))], .st 45 [.sc (.int .i64 (fld 5 (RS.mk b 0))), .sc (.int .i64 (fld 6 (RS.mk b 0)))], .sc (.int .i64 (fld 7 (RS.mk b 0))), .sc (.int .i64 (fld 8 (RS.mk b 0))), .st 45 [.sc (.int .i64 (fld 9 (RS.mk b 0))), .sc (.int .i64 (fld 10 (RS.mk b 0)))], .sc (.int .i64 (fld 11 (RS.mk b 0))), .sc (.int .i64 (fld 12 (RS.mk b 0))), .ro 29 (bodL (RS.mk b 0)).isEmpty (bodL (RS.mk b 0)).isEmpty (bodL (RS.mk b 0))], .sc (.int .i64 0)]) [] []) else bif (msgE (RS.mk b 0)).e == 0 then bif decide (0 ≤ IntKind.i64.wrap (zi b.length - 32)) && true && decide ((IntKind.i64.wrap (zi b.length - 32)).toNat ≤ b.length) && true then bif allInt IntKind.u8 (keyF (K3.mk [.ro 5 k0_z k0_f k0, .ro 5 k1_z k1_f k1, .ro 5 k2_z k2_f k2] (fld 1 (RS.mk b 0)))) && decide ((keyF (K3.mk [.ro 5 k0_z k0_f k0, .ro 5 k1_z k1_f k1, .ro 5 k2_z k2_f k2] (fld 1 (RS.mk b 0)))).length ≤ 1000000000) && (allInt IntKind.u8 (flat [.ro 5 b_z (b_z || b_f && false) (List.take (IntKind.i64.wrap (zi b.length - 32)).toNat b)]) && decide ((flat [.ro 5 b_z (b_z || b_f && false) (List.take (IntKind.i64.wrap (zi b.length - 32)).toNat b)]).length ≤ 1000000000)) && true then bif decide ((pu IntKind.u8 (macP (ints (keyF (K3.mk [.ro 5 k0_z k0_f k0, .ro 5 k1_z k1_f k1, .ro 5 k2_z k2_f k2] (fld 1 (RS.mk b 0))))) (ints (flat [.ro 5 b_z (b_z || b_f && false) (List.take (IntKind.i64.wrap (zi b.length - 32)).toNat b)])))).length = 32) && decide ((pu IntKind.u8 (msgH (RS.mk b 0))).length = 32) && allInt IntKind.u8 (pu IntKind.u8 (macP (ints (keyF (K3.mk [.ro 5 k0_z k0_f k0, .ro 5 k1_z k1_f k1, .ro 5 k2_z k2_f k2] (fld 1 (RS.mk b 0))))) (ints (flat [.ro 5 b_z (b_z || b_f && false) (List.take (IntKind.i64.wrap (zi b.length - 32)).toNat b)])))) && allInt IntKind.u8 (pu IntKind.u8 (msgH (RS.mk b 0))) && true then bif !eqInts (pu IntKind.u8 (macP (ints (keyF (K3.mk [.ro 5 k0_z k0_f k0, .ro 5 k1_z k1_f k1, .ro 5 k2_z k2_f k2] (fld 1 (RS.mk b 0))))) (ints (flat [.ro 5 b_z (b_z || b_f && false) (List.take (IntKind.i64.wrap (zi b.length - 32)).toNat b)])))) (pu IntKind.u8 (msgH (RS.mk b 0))) then k (Res.mk (.tup [.st 54 [.sc (.int .i64 0), .sc (.int .i64 0), .sc (.int .i64 0), .st 34 [.sc (.int .i64 0), .sc (.int .i64 0)], .st 45 [.sc (.int .i64 0), .sc (.int .i64 0)], .sc (.int .i64 0), .sc (.int .i64 0), .st 45 [.sc (.int .i64 0), .sc (.int .i64 0)], .sc (.int .i64 0), .sc (.int .i64 0), .ro 29 true true []], .sc (.int .i64 14)]) [] []) else bif (msgE (RS.mk b 0)).e != 0 then k (Res.mk (.tup [.st 54 [.sc (.int .i64 0), .sc (.int .i64 0), .sc (.int .i64 0), .st 34 [.sc (.int .i64 0), .sc (.int .i64 0)], .st 45 [.sc (.int .i64 0), .sc (.int .i64 0)], .sc (.int .i64 0), .sc (.int .i64 0), .st 45 [.sc (.int .i64 0), .sc (.int .i64 0)], .sc (.int .i64 0), .sc (.int .i64 0), .ro 29 true true []], .sc (.int .i64 (msgE (RS.mk b 0)).e)]) [] []) else k (Res.mk (.tup [.st 54 [.sc (.int .i64 (fld 0 (RS.mk b 0))), .sc (.int .i64 (fld 1 (RS.mk b 0))), .sc (.int .i64 (fld 2 (RS.mk b 0))), .st 34 [.sc (.int .i64 (fld 3 (RS.mk b 0))), .sc (.int .i64 (fld 4 (RS.mk b 0)))], .st 45 [.sc (.int .i64 (fld 5 (RS.mk b 0))), .sc (.int .i64 (fld 6 (RS.mk b 0)))], .sc (.int .i64 (fld 7 (RS.mk b 0))), .sc (.int .i64 (fld 8 (RS.mk b 0))), .st 45 [.sc (.int .i64 (fld 9 (RS.mk b 0))), .sc (.int .i64 (fld 10 (RS.mk b 0)))], .sc (.int .i64 (fld 11 (RS.mk b 0))), .sc (.int .i64 (fld 12 (RS.mk b 0))), .ro 29 (bodL (RS.mk b 0)).isEmpty (bodL (RS.mk b 0)).isEmpty (bodL (RS.mk b 0))], .sc (.int .i64 0)]) [] []) else none else none else none else bif (msgE (RS.mk b 0)).e != 0 then k (Res.mk (.tup [.st 54 [.sc (.int .i64 0), .sc (.int .i64 0), .sc (.int .i64 0), .st 34 [.sc (.int .i64 0), .sc (.int .i64 0)], .st 45 [.sc (.int .i64 0), .sc (.int .i64 0)], .sc (.int .i64 0), .sc (.int .i64 0), .st 45 [.sc (.int .i64 0), .sc (.int .i64 0)], .sc (.int .i64 0), .sc (.int .i64 0), .ro 29 true true []], .sc (.int .i64 (msgE (RS.mk b 0)).e)]) [] []) else k (Res.mk (.tup [.st 54 [.sc (.int .i64 (fld 0 (RS.mk b 0))), .sc (.int .i64 (fld 1 (RS.mk b 0))), .sc (.int .i64 (fld 2 (RS.mk b 0))), .st 34 [.sc (.int .i64 (fld 3 (RS.mk b 0))), .sc (.int .i64 (fld 4 (RS.mk b 0)))], .st 45 [.sc (.int .i64 (fld 5 (RS.mk b 0))), .sc (.int .i64 (fld 6 (RS.mk b 0)))], .sc (.int .i64 (fld 7 (RS.mk b 0))), .sc (.int .i64 (fld 8 (RS.mk b 0))), .st 45 [.sc (.int .i64 (fld 9 (RS.mk b 0))), .sc (.int .i64 (fld 10 (RS.mk b 0)))], .sc (.int .i64 (fld 11 (RS.mk b 0))), .sc (.int .i64 (fld 12 (RS.mk b 0))), .ro 29 (bodL (RS.mk b 0)).isEmpty (bodL (RS.mk b 0)).isEmpty (bodL (RS.mk b 0))], .sc (.int .i64 0)]) [] []) else bif (msgE (RS.mk b 0)).e == 0 then bif chk (C13.mk (fld 0 (RS.mk b 0)) (fld 1 (RS.mk b 0)) (fld 2 (RS.mk b 0)) (fld 3 (RS.mk b 0)) (fld 4 (RS.mk b 0)) (fld 5 (RS.mk b 0)) (fld 6 (RS.mk b 0)) (fld 7 (RS.mk b 0)) (fld 8 (RS.mk b 0)) (fld 9 (RS.mk b 0)) (fld 10 (RS.mk b 0)) (fld 11 (RS.mk b 0)) (fld 12 (RS.mk b 0))) == 0 then bif decide (0 ≤ IntKind.i64.wrap (zi b.length - 32)) && true && decide ((IntKind.i64.wrap (zi b.length - 32)).toNat ≤ b.length) && true then bif allInt IntKind.u8 (keyF (K3.mk [.ro 5 k0_z k0_f k0, .ro 5 k1_z k1_f k1, .ro 5 k2_z k2_f k2] (fld 1 (RS.mk b 0)))) && decide ((keyF (K3.mk [.ro 5 k0_z k0_f k0, .ro 5 k1_z k1_f k1, .ro 5 k2_z k2_f k2] (fld 1 (RS.mk b 0)))).length ≤ 1000000000) && (allInt IntKind.u8 (flat [.ro 5 b_z (b_z || b_f && false) (List.take (IntKind.i64.wrap (zi b.length - 32)).toNat b)]) && decide ((flat [.ro 5 b_z (b_z || b_f && false) (List.take (IntKind.i64.wrap (zi b.length - 32)).toNat b)]).length ≤ 1000000000)) && true then bif decide ((pu IntKind.u8 (macP (ints (keyF (K3.mk [.ro 5 k0_z k0_f k0, .ro 5 k1_z k1_f k1, .ro 5 k2_z k2_f k2] (fld 1 (RS.mk b 0))))) (ints (flat [.ro 5 b_z (b_z || b_f && false) (List.take (IntKind.i64.wrap (zi b.length - 32)).toNat b)])))).length = 32) && decide ((pu IntKind.u8 (msgH (RS.mk b 0))).length = 32) && allInt IntKind.u8 (pu IntKind.u8 (macP (ints (keyF (K3.mk [.ro 5 k0_z k0_f k0, .ro 5 k1_z k1_f k1, .ro 5 k2_z k2_f k2] (fld 1 (RS.mk b 0))))) (ints (flat [.ro 5 b_z (b_z || b_f && false) (List.take (IntKind.i64.wrap (zi b.length - 32)).toNat b)])))) && allInt IntKind.u8 (pu IntKind.u8 (msgH (RS.mk b 0))) && true then bif !eqInts (pu IntKind.u8 (macP (ints (keyF (K3.mk [.ro 5 k0_z k0_f k0, .ro 5 k1_z k1_f k1, .ro 5 k2_z k2_f k2] (fld 1 (RS.mk b 0))))) (ints (flat [.ro 5 b_z (b_z || b_f && false) (List.take (IntKind.i64.wrap (zi b.length - 32)).toNat b)])))) (pu IntKind.u8 (msgH (RS.mk b 0))) then k (Res.mk (.tup [.st 54 [.sc (.int .i64 0), .sc (.int .i64 0), .sc (.int .i64 0), .st 34 [.sc (.int .i64 0), .sc (.int .i64 0)], .st 45 [.sc (.int .i64 0), .sc (.int .i64 0)], .sc (.int .i64 0), .sc (.int .i64 0), .st 45 [.sc (.int .i64 0), .sc (.int .i64 0)], .sc (.int .i64 0), .sc (.int .i64 0), .ro 29 true true []], .sc (.int .i64 14)]) [] []) else bif chk (C13.mk (fld 0 (RS.mk b 0)) (fld 1 (RS.mk b 0)) (fld 2 (RS.mk b 0)) (fld 3 (RS.mk b 0)) (fld 4 (RS.mk b 0)) (fld 5 (RS.mk b 0)) (fld 6 (RS.mk b 0)) (fld 7 (RS.mk b 0)) (fld 8 (RS.mk b 0)) (fld 9 (RS.mk b 0)) (fld 10 (RS.mk b 0)) (fld 11 (RS.mk b 0)) (fld 12 (RS.mk b 0))) != 0 then k (Res.mk (.tup [.st 54 [.sc (.int .i64 0), .sc (.int .i64 0), .sc (.int .i64 0), .st 34 [.sc (.int .i64 0), .sc (.int .i64 0)], .st 45 [.sc (.int .i64 0), .sc (.int .i64 0)], .sc (.int .i64 0), .sc (.int .i64 0), .st 45 [.sc (.int .i64 0), .sc (.int .i64 0)], .sc (.int .i64 0), .sc (.int .i64 0), .ro 29 true true []], .sc (.int .i64 (chk (C13.mk (fld 0 (RS.mk b 0)) (fld 1 (RS.mk b 0)) (fld 2 (RS.mk b 0)) (fld 3 (RS.mk b 0)) (fld 4 (RS.mk b 0)) (fld 5 (RS.mk b 0)) (fld 6 (RS.mk b 0)) (fld 7 (RS.mk b 0)) (fld 8 (RS.mk b 0)) (fld 9 (RS.mk b 0)) (fld 10 (RS.mk b 0)) (fld 11 (RS.mk b 0)) (fld 12 (RS.mk b 0)))))]) [] []) else k (Res.mk (.tup [.st 54 [.sc (.int .i64 (fld 0 (RS.mk b 0))), .sc (.int .i64 (fld 1 (RS.mk b 0))), .sc (.int .i64 (fld 2 (RS.mk b 0))), .st 34 [.sc (.int .i64 (fld 3 (RS.mk b 0))), .sc (.int .i64 (fld 4 (RS.mk b 0)))], .st 45 [.sc (.int .i64 (fld 5 (RS.mk b 0))), .sc (.int .i64 (fld 6 (RS.mk b 0)))], .sc (.int .i64 (fld 7 (RS.mk b 0))), .sc (.int .i64 (fld 8 (RS.mk b 0))), .st 45 [.sc (.int .i64 (fld 9 (RS.mk b 0))), .sc (.int .i64 (fld 10 (RS.mk b 0)))], .sc (.int .i64 (fld 11 (RS.mk b 0))), .sc (.int .i64 (fld 12 (RS.mk b 0))), .ro 29 (bodL (RS.mk b 0)).isEmpty (bodL (RS.mk b 0)).isEmpty (bodL (RS.mk b 0))], .sc (.int .i64 0)]) [] []) else none else none else none else bif chk (C13.mk (fld 0 (RS.mk b 0)) (fld 1 (RS.mk b 0)) (fld 2 (RS.mk b 0)) (fld 3 (RS.mk b 0)) (fld 4 (RS.mk b 0)) (fld 5 (RS.mk b 0)) (fld 6 (RS.mk b 0)) (fld 7 (RS.mk b 0)) (fld 8 (RS.mk b 0)) (fld 9 (RS.mk b 0)) (fld 10 (RS.mk b 0)) (fld 11 (RS.mk b 0)) (fld 12 (RS.mk b 0))) != 0 then k (Res.mk (.tup [.st 54 [.sc (.int .i64 0), .sc (.int .i64 0), .sc (.int .i64 0), .st 34 [.sc (.int .i64 0), .sc (.int .i64 0)], .st 45 [.sc (.int .i64 0), .sc (.int .i64 0)], .sc (.int .i64 0), .sc (.int .i64 0), .st 45 [.sc (.int .i64 0), .sc (.int .i64 0)], .sc (.int .i64 0), .sc (.int .i64 0), .ro 29 true true []], .sc (.int .i64 (chk (C13.mk (fld 0 (RS.mk b 0)) (fld 1 (RS.mk b 0)) (fld 2 (RS.mk b 0)) (fld 3 (RS.mk b 0)) (fld 4 (RS.mk b 0)) (fld 5 (RS.mk b 0)) (fld 6 (RS.mk b 0)) (fld 7 (RS.mk b 0)) (fld 8 (RS.mk b 0)) (fld 9 (RS.mk b 0)) (fld 10 (RS.mk b 0)) (fld 11 (RS.mk b 0)) (fld 12 (RS.mk b 0)))))]) [] []) else k (Res.mk (.tup [.st 54 [.sc (.int .i64 (fld 0 (RS.mk b 0))), .sc (.int .i64 (fld 1 (RS.mk b 0))), .sc (.int .i64 (fld 2 (RS.mk b 0))), .st 34 [.sc (.int .i64 (fld 3 (RS.mk b 0))), .sc (.int .i64 (fld 4 (RS.mk b 0)))], .st 45 [.sc (.int .i64 (fld 5 (RS.mk b 0))), .sc (.int .i64 (fld 6 (RS.mk b 0)))], .sc (.int .i64 (fld 7 (RS.mk b 0))), .sc (.int .i64 (fld 8 (RS.mk b 0))), .st 45 [.sc (.int .i64 (fld 9 (RS.mk b 0))), .sc (.int .i64 (fld 10 (RS.mk b 0)))], .sc (.int .i64 (fld 11 (RS.mk b 0))), .sc (.int .i64 (fld 12 (RS.mk b 0))), .ro 29 (bodL (RS.mk b 0)).isEmpty (bodL (RS.mk b 0)).isEmpty (bodL (RS.mk b 0))], .sc (.int .i64 0)]) [] []) else bif (msgE (RS.mk b 0)).e == 0 then bif decide (0 ≤ IntKind.i64.wrap (zi b.length - 32)) && true && decide ((IntKind.i64.wrap (zi b.length - 32)).toNat ≤ b.length) && true then bif allInt IntKind.u8 (keyF (K3.mk [.ro 5 k0_z k0_f k0, .ro 5 k1_z k1_f k1, .ro 5 k2_z k2_f k2] (fld 1 (RS.mk b 0)))) && decide ((keyF (K3.mk [.ro 5 k0_z k0_f k0, .ro 5 k1_z k1_f k1, .ro 5 k2_z k2_f k2] (fld 1 (RS.mk b 0)))).length ≤ 1000000000) && (allInt IntKind.u8 (flat [.ro 5 b_z (b_z || b_f && false) (List.take (IntKind.i64.wrap (zi b.length - 32)).toNat b)]) && decide ((flat [.ro 5 b_z (b_z || b_f && false) (List.take (IntKind.i64.wrap (zi b.length - 32)).toNat b)]).length ≤ 1000000000)) && true then bif decide ((pu IntKind.u8 (macP (ints (keyF (K3.mk [.ro 5 k0_z k0_f k0, .ro 5 k1_z k1_f k1, .ro 5 k2_z k2_f k2] (fld 1 (RS.mk b 0))))) (ints (flat [.ro 5 b_z (b_z || b_f && false) (List.take (IntKind.i64.wrap (zi b.length - 32)).toNat b)])))).length = 32) && decide ((pu IntKind.u8 (msgH (RS.mk b 0))).length = 32) && allInt IntKind.u8 (pu IntKind.u8 (macP (ints (keyF (K3.mk [.ro 5 k0_z k0_f k0, .ro 5 k1_z k1_f k1, .ro 5 k2_z k2_f k2] (fld 1 (RS.mk b 0))))) (ints (flat [.ro 5 b_z (b_z || b_f && false) (List.take (IntKind.i64.wrap (zi b.length - 32)).toNat b)])))) && allInt IntKind.u8 (pu IntKind.u8 (msgH (RS.mk b 0))) && true then bif !eqInts (pu IntKind.u8 (macP (ints (keyF (K3.mk [.ro 5 k0_z k0_f k0, .ro 5 k1_z k1_f k1, .ro 5 k2_z k2_f k2] (fld 1 (RS.mk b 0))))) (ints (flat [.ro 5 b_z (b_z || b_f && false) (List.take (IntKind.i64.wrap (zi b.length - 32)).toNat b)])))) (pu IntKind.u8 (msgH (RS.mk b 0))) then k (Res.mk (.tup [.st 54 [.sc (.int .i64 0), .sc (.int .i64 0), .sc (.int .i64 0), .st 34 [.sc (.int .i64 0), .sc (.int .i64 0)], .st 45 [.sc (.int .i64 0), .sc (.int .i64 0)], .sc (.int .i64 0), .sc (.int .i64 0), .st 45 [.sc (.int .i64 0), .sc (.int .i64 0)], .sc (.int .i64 0), .sc (.int .i64 0), .ro 29 true true []], .sc (.int .i64 14)]) [] []) else bif (msgE (RS.mk b 0)).e != 0 then k (Res.mk (.tup [.st 54 [.sc (.int .i64 0), .sc (.int .i64 0), .sc (.int .i64 0), .st 34 [.sc (.int .i64 0), .sc (.int .i64 0)], .st 45 [.sc (.int .i64 0), .sc (.int .i64 0)], .sc (.int .i64 0), .sc (.int .i64 0), .st 45 [.sc (.int .i64 0), .sc (.int .i64 0)], .sc (.int .i64 0), .sc (.int .i64 0), .ro 29 true true []], .sc (.int .i64 (msgE (RS.mk b 0)).e)]) [] []) else k (Res.mk (.tup [.st 54 [.sc (.int .i64 (fld 0 (RS.mk b 0))), .sc (.int .i64 (fld 1 (RS.mk b 0))), .sc (.int .i64 (fld 2 (RS.mk b 0))), .st 34 [.sc (.int .i64 (fld 3 (RS.mk b 0))), .sc (.int .i64 (fld 4 (RS.mk b 0)))], .st 45 [.sc (.int .i64 (fld 5 (RS.mk b 0))), .sc (.int .i64 (fld 6 (RS.mk b 0)))], .sc (.int .i64 (fld 7 (RS.mk b 0))), .sc (.int .i64 (fld 8 (RS.mk b 0))), .st 45 [.sc (.int .i64 (fld 9 (RS.mk b 0))), .sc (.int .i64 (fld 10 (RS.mk b 0)))], .sc (.int .i64 (fld 11 (RS.mk b 0))), .sc (.int .i64 (fld 12 (RS.mk b 0))), .ro 29 (bodL (RS.mk b 0)).isEmpty (bodL (RS.mk b 0)).isEmpty (bodL (RS.mk b 0))], .sc (.int .i64 0)]) [] []) else none else none else none else bif (msgE (RS.mk b 0)).e != 0 then k (Res.mk (.tup [.st 54 [.sc (.int .i64 0), .sc (.int .i64 0), .sc (.int .i64 0), .st 34 [.sc (.int .i64 0), .sc (.int .i64 0)], .st 45 [.sc (.int .i64 0), .sc (.int .i64 0)], .sc (.int .i64 0), .sc (.int .i64 0), .st 45 [.sc (.int .i64 0), .sc (.int .i64 0)], .sc (.int .i64 0), .sc (.int .i64 0), .ro 29 true true []], .sc (.int .i64 (msgE (RS.mk b 0)).e)]) [] []) else k (Res.mk (.tup [.st 54 [.sc (.int .i64 (fld 0 (RS.mk b 0))), .sc (.int .i64 (fld 1 (RS.mk b 0))), .sc (.int .i64 (fld 2 (RS.mk b 0))), .st 34 [.sc (.int .i64 (fld 3 (RS.mk b 0))), .sc (.int .i64 (fld 4 (RS.mk b 0)))], .st 45 [.sc (.int .i64 (fld 5 (RS.mk b 0))), .sc (.int .i64 (fld 6 (RS.mk b 0)))], .sc (.int .i64 (fld 7 (RS.mk b 0))), .sc (.int .i64 (fld 8 (RS.mk b 0))), .st 45 [.sc (.int .i64 (fld 9 (RS.mk b 0))), .sc (.int .i64 (fld 10 (RS.mk b 0)))], .sc (.int .i64 (fld 11 (RS.mk b 0))), .sc (.int .i64 (fld 12 (RS.mk b 0))), .ro 29 (bodL (RS.mk b 0)).isEmpty (bodL (RS.mk b 0)).isEmpty (bodL (RS.mk b 0))], .sc (.int .i64 0)]) [] []) else none else none
theorem e37 (f : Nat) (k0_z : Bool) (k0_f : Bool) (k0 : List PV) (k1_z : Bool) (k1_f : Bool) (k1 : List PV) (k2_z : Bool) (k2_f : Bool) (k2 : List PV) (b_z : Bool) (b_f : Bool) (b : List PV) (k : Res → Option Res) : evFn tau F37 Try.f37 (Try.f37.body.get!) an37 [.ro, .ro] 0 [.st 31 [.ro 5 k0_z k0_f k0, .ro 5 k1_z k1_f k1, .ro 5 k2_z k2_f k2], .ro 5 b_z b_f b] [] k = g37 f k0_z k0_f k0 k1_z k1_f k1 k2_z k2_f k2 b_z b_f b k := by kernel_rfl
theorem it37 (f : Nat) : items (Try.f37.body.get!) an37 = [] := by kernel_rfl
theorem ia37 (f : Nat) : ∀ q ∈ items (Try.f37.body.get!) an37, q.Ok tau Try.prog 0 := by
  rw [it37 f]; intro q hq; cases hq
theorem fo37 : Try.prog.funcs[37]? = some Try.f37 := by kernel_rfl
theorem bo37 : Try.f37.body = some (Try.f37.body.get!) := by kernel_rfl
theorem en37 : Enters Try.prog 37 := enters_of fo37 (by kernel_rfl) bo37
noncomputable def run37 : List PV → List Ent → (Res → Option Res) → Option Res
  | [.st 31 [.ro 5 k0_z k0_f k0, .ro 5 k1_z k1_f k1, .ro 5 k2_z k2_f k2], .ro 5 b_z b_f b], [], k => g37 0 k0_z k0_f k0 k1_z k1_f k1 k2_z k2_f k2 b_z b_f b k
  | _, _, _ => none
noncomputable def s37 : Sig := { own := [], run := run37 }
theorem ok37 : CallOk tau Try.prog 37 s37 := fn_ok tabOk F37_ok mixed fo37 bo37 an37 [.ro, .ro] 0 [] run37 (ia37 0) fun xs es k res hr => by
  unfold run37 at hr
  split at hr
  · exact ⟨rfl, 0, (e37 0 _ _ _ _ _ _ _ _ _ _ _ _  _).trans hr⟩
  · cases hr
end Go.Proofs.Ytcklhipdldpkhaa.Rx

-- FN wire.Parse
namespace Go.Proofs.Ytcklhipdldpkhaa.Rx
open Go
set_option linter.unusedVariables false
set_option linter.unusedSimpArgs false
set_option maxRecDepth 100000
set_option maxHeartbeats 1000000
structure PA where
  (l : List PV) (b : List PV)
noncomputable def parC (s : RS) : Int := chk ⟨fld 0 s, fld 1 s, fld 2 s, fld 3 s, fld 4 s, fld 5 s, fld 6 s, fld 7 s, fld 8 s, fld 9 s, fld 10 s, fld 11 s, fld 12 s⟩
noncomputable def parM (p : PA) : List Int := macP (ints (keyF ⟨p.l, fld 1 ⟨p.b, 0⟩⟩)) (ints (p.b.take (p.b.length - 32)))
noncomputable def parE0 (p : PA) : Int :=
  bif decide (p.b.length > 8192) then 5
  else bif (msgE ⟨p.b, 0⟩).e == 0 then
    (bif decide ((msgE ⟨p.b, 0⟩).b.length > 0) then 9
    else bif parC ⟨p.b, 0⟩ == 0 then (bif parM p == msgH ⟨p.b, 0⟩ then 0 else 14)
    else parC ⟨p.b, 0⟩)
  else (msgE ⟨p.b, 0⟩).e
noncomputable def parE : PA → Int := hid parE0
noncomputable def pfld : Nat → PA → Int := hid fun i p => bif parE0 p == 0 then fld i ⟨p.b, 0⟩ else 0
noncomputable def pbod : PA → List PV := hid fun p => bif parE0 p == 0 then bodL ⟨p.b, 0⟩ else []
theorem parE_eq (p : PA) : parE p = parE0 p := by rw [parE, hid_eq]
theorem pfld_eq (i : Nat) (p : PA) : pfld i p = bif parE0 p == 0 then fld i ⟨p.b, 0⟩ else 0 := by rw [pfld, hid_eq]
theorem pbod_eq (p : PA) : pbod p = bif parE0 p == 0 then bodL ⟨p.b, 0⟩ else [] := by rw [pbod, hid_eq]
noncomputable def parP (p : PA) : PV := .tup [.st 54 [.sc (.int .i64 (pfld 0 p)), .sc (.int .i64 (pfld 1 p)), .sc (.int .i64 (pfld 2 p)), .st 34 [.sc (.int .i64 (pfld 3 p)), .sc (.int .i64 (pfld 4 p))], .st 45 [.sc (.int .i64 (pfld 5 p)), .sc (.int .i64 (pfld 6 p))], .sc (.int .i64 (pfld 7 p)), .sc (.int .i64 (pfld 8 p)), .st 45 [.sc (.int .i64 (pfld 9 p)), .sc (.int .i64 (pfld 10 p))], .sc (.int .i64 (pfld 11 p)), .sc (.int .i64 (pfld 12 p)), .ro 29 (pbod p).isEmpty (pbod p).isEmpty (pbod p)], .sc (.int .i64 (parE p))]
def zeroM (e : Int) : PV := .tup [.st 54 [.sc (.int .i64 0), .sc (.int .i64 0), .sc (.int .i64 0), .st 34 [.sc (.int .i64 0), .sc (.int .i64 0)], .st 45 [.sc (.int .i64 0), .sc (.int .i64 0)], .sc (.int .i64 0), .sc (.int .i64 0), .st 45 [.sc (.int .i64 0), .sc (.int .i64 0)], .sc (.int .i64 0), .sc (.int .i64 0), .ro 29 true true []], .sc (.int .i64 e)]
theorem parP_bad {p : PA} {e : Int} (h : parE0 p = e) (h0 : (e == 0) = false) : parP p = zeroM e := by
  unfold parP zeroM
  simp only [pfld_eq, pbod_eq, parE_eq, h, h0, cond_false, List.isEmpty_nil]
theorem parP_ok {p : PA} (h : parE0 p = 0) : parP p = .tup [msgP ⟨p.b, 0⟩, .sc (.int .i64 0)] := by
  unfold parP msgP
  simp only [pfld_eq, pbod_eq, parE_eq, h, beq_self_eq_true, cond_true]
theorem stepS_len (n : Nat) (s : RS) : (stepS n s).b.length ≤ s.b.length := by rw [stepS_eq]; exact step_length n s
theorem txtS_len (s : RS) : (txtS s).b.length ≤ s.b.length := by rw [txtS_eq]; exact Nat.le_trans (step_length _ _) (step_length _ _)
theorem fS_len (s : RS) : ∀ n, (fS n s).b.length ≤ s.b.length
  | 0 => Nat.le_refl _
  | 1 => stepS_len 1 s
  | n + 2 => Nat.le_trans (stepS_len 8 _) (fS_len s (n + 1))
theorem txR_len : ∀ (n : Nat) (s : RS), (txR n s).b.length ≤ s.b.length
  | 0, _ => Nat.le_refl _
  | n + 1, s => Nat.le_trans (txR_len n (txtS s)) (txtS_len s)
theorem runB_err : ∀ (n : Nat) {s : RS}, s.e ≠ 0 → (runB n s).e ≠ 0
  | 0, _, h => h
  | n + 1, s, h => by
      show (runB n (stepS0 1 s)).e ≠ 0
      rw [step_err h]; exact runB_err n h
theorem runB_room : ∀ (n : Nat) (s : RS), (runB n s).e = 0 → n ≤ s.b.length
  | 0, _, _ => Nat.zero_le _
  | n + 1, s, h => by
      have h2 : (runB n (stepS0 1 s)).e = 0 := h
      have ih := runB_room n (stepS0 1 s) h2
      cases hk : okS0 1 s with
      | true =>
        have hl : (stepS0 1 s).b = s.b.drop 1 := by unfold stepS0; rw [hk]; rfl
        rw [hl, List.length_drop] at ih
        simp only [okS0, Bool.and_eq_true, Nat.ble_eq] at hk
        omega
      | false =>
        exfalso
        refine runB_err n (s := stepS0 1 s) ?_ h2
        unfold stepS0
        rw [hk, cond_false]
        show (bif s.e == 0 then (8 : Int) else s.e) ≠ 0
        cases he : (s.e == 0) with
        | true => exact (by decide : (8 : Int) ≠ 0)
        | false => exact (by simpa using he : s.e ≠ 0)
theorem msg_room {b : List PV} {e : Int} (h : (msgE ⟨b, e⟩).e = 0) : 32 ≤ b.length := by
  rw [msgE_eq, hashS_eq] at h
  have h1 := runB_room 32 _ h
  have h2 := txR_len (msgN ⟨b, e⟩) (msgS ⟨b, e⟩)
  have h3 : (msgS ⟨b, e⟩).b.length ≤ (stepS 1 (fS 13 ⟨b, e⟩)).b.length := by
    unfold msgS
    cases decide (cntS ⟨b, e⟩ > 4) <;> exact Nat.le_refl _
  have h4 := stepS_len 1 (fS 13 ⟨b, e⟩)
  have h5 := fS_len ⟨b, e⟩ 13
  have h6 : (RS.mk b e).b.length = b.length := rfl
  omega
def kOk (l : List PV) : Bool := allInt .u8 l && decide (l.length ≤ 1000000000)
theorem keyF_ok {z0 f0 z1 f1 z2 f2 : Bool} {k0 k1 k2 : List PV} (h0 : kOk k0 = true) (h1 : kOk k1 = true) (h2 : kOk k2 = true) (d : Int) : kOk (keyF ⟨[.ro 5 z0 f0 k0, .ro 5 z1 f1 k1, .ro 5 z2 f2 k2], d⟩) = true := by
  rw [keyF_eq]
  show kOk (keyF0 _ d).els = true
  unfold keyF0
  cases h : innB d 2 with
  | false => rfl
  | true =>
    simp only [innB, Bool.and_eq_true, decide_eq_true_eq] at h
    have : d = 0 ∨ d = 1 ∨ d = 2 := by omega
    rcases this with rfl | rfl | rfl
    · exact h0
    · exact h1
    · exact h2
noncomputable def run37' : List PV → List Ent → (Res → Option Res) → Option Res
  | [.st 31 [.ro 5 z0 f0 k0, .ro 5 z1 f1 k1, .ro 5 z2 f2 k2], .ro 5 z f b], [], k =>
    bif (slB z b && byB b) && (kOk k0 && (kOk k1 && kOk k2)) then k ⟨parP ⟨[.ro 5 z0 f0 k0, .ro 5 z1 f1 k1, .ro 5 z2 f2 k2], b⟩, [], []⟩ else none
  | _, _, _ => none
noncomputable def s37' : Sig := { own := [], run := run37' }
theorem g37_eq (z0 f0 z1 f1 z2 f2 z f : Bool) (k0 k1 k2 b : List PV) (hz : slB z b = true) (hb : byB b = true) (h0 : kOk k0 = true) (h1 : kOk k1 = true) (h2 : kOk k2 = true) (k : Res → Option Res) :
    g37 0 z0 f0 k0 z1 f1 k1 z2 f2 k2 z f b k = k ⟨parP ⟨[.ro 5 z0 f0 k0, .ro 5 z1 f1 k1, .ro 5 z2 f2 k2], b⟩, [], []⟩ := by
  generalize hp : PA.mk [.ro 5 z0 f0 k0, .ro 5 z1 f1 k1, .ro 5 z2 f2 k2] b = p
  have hpb : p.b = b := by rw [← hp]
  have hpl : p.l = [.ro 5 z0 f0 k0, .ro 5 z1 f1 k1, .ro 5 z2 f2 k2] := by rw [← hp]
  have hE : parE0 p = parE0 p := rfl
  conv at hE => rhs; unfold parE0
  rw [hpb] at hE
  unfold g37
  by_cases c1 : b.length > 8192
  · refine (bif_t (by simp [zi]; omega)).trans ?_
    rw [show decide (b.length > 8192) = true by simpa using c1, cond_true] at hE
    rw [parP_bad hE (by decide)]
    rfl
  refine (bif_f (by simp [zi]; omega)).trans ((bif_t hz).trans ((bif_t (by rw [hb]; cases z <;> rfl)).trans ?_))
  rw [show decide (b.length > 8192) = false by simpa using c1, cond_false] at hE
  cases ce : ((msgE ⟨b, 0⟩).e == 0) with
  | false =>
    rw [ce, cond_false] at hE
    simp only [cond_false]
    refine (bif_t (by simp only [bne, ce]; rfl)).trans ?_
    rw [parP_bad hE ce]
    rfl
  | true =>
    rw [ce, cond_true] at hE
    simp only [cond_true]
    by_cases c2 : (msgE ⟨b, 0⟩).b.length > 0
    · refine (bif_t (by simp [zi]; omega)).trans ?_
      rw [show decide ((msgE ⟨b, 0⟩).b.length > 0) = true by simpa using c2, cond_true] at hE
      rw [parP_bad hE (by decide)]
      rfl
    refine (bif_f (decide_eq_false_iff_not.2 (by simp only [zi]; omega))).trans ?_
    rw [show decide ((msgE ⟨b, 0⟩).b.length > 0) = false by simpa using c2, cond_false] at hE
    have hC : ∀ x : Int, parC ⟨b, 0⟩ = x → chk ⟨fld 0 ⟨b, 0⟩, fld 1 ⟨b, 0⟩, fld 2 ⟨b, 0⟩, fld 3 ⟨b, 0⟩, fld 4 ⟨b, 0⟩, fld 5 ⟨b, 0⟩, fld 6 ⟨b, 0⟩, fld 7 ⟨b, 0⟩, fld 8 ⟨b, 0⟩, fld 9 ⟨b, 0⟩, fld 10 ⟨b, 0⟩, fld 11 ⟨b, 0⟩, fld 12 ⟨b, 0⟩⟩ = x := fun x h => h
    cases cc : (parC ⟨b, 0⟩ == 0) with
    | false =>
      rw [cc, cond_false] at hE
      generalize hx : parC ⟨b, 0⟩ = x at *
      rw [hC x rfl, cc, cond_false]
      refine (bif_t (by simp only [bne, cc]; rfl)).trans ?_
      rw [parP_bad hE cc]
      rfl
    | true =>
      rw [cc, cond_true] at hE
      have cc' : parC ⟨b, 0⟩ = 0 := by simpa using cc
      rw [hC 0 cc']
      refine (bif_t rfl).trans ?_
      have hr := msg_room (b := b) (e := 0) (by simpa using ce)
      have hw : IntKind.i64.wrap (zi b.length - 32) = ((b.length - 32 : Nat) : Int) := by simp only [zi]; rw [wrap_i64 (by omega) (by omega)]; omega
      have hk := keyF_ok (z0 := z0) (f0 := f0) (z1 := z1) (f1 := f1) (z2 := z2) (f2 := f2) h0 h1 h2 (fld 1 ⟨b, 0⟩)
      unfold kOk at hk
      have hab := (byB_iff.1 hb).1
      have hat : allInt .u8 (b.take (b.length - 32)) = true := (byB_iff.1 (byB_take hb (b.length - 32))).1
      have hft : ∀ (x y : Bool) (l : List PV), flat [.ro 5 x y l] = l := fun x y l => by simp [PV.els]
      simp only [hw, Int.toNat_natCast, hft]
      refine (bif_t (by simp)).trans ((bif_t (by rw [hk, hat]; simp; omega)).trans ((bif_t (by simp [macP_length])).trans ?_))
      have hM : parM p = macP (ints (keyF ⟨[.ro 5 z0 f0 k0, .ro 5 z1 f1 k1, .ro 5 z2 f2 k2], fld 1 ⟨b, 0⟩⟩)) (ints (b.take (b.length - 32))) := by unfold parM; rw [hpb, hpl]
      rw [eqInts_pu, ← hM]
      cases cm : (parM p == msgH ⟨b, 0⟩) with
      | false =>
        rw [cm, cond_false] at hE
        refine (bif_t rfl).trans ?_
        rw [parP_bad hE (by decide)]
        rfl
      | true =>
        rw [cm, cond_true] at hE
        refine (bif_f rfl).trans ((bif_f (by decide)).trans ?_)
        rw [parP_ok hE, hpb]
        rfl
theorem ok37' : CallOk tau Try.prog 37 s37' := ok37.of fun xs es k res hr => by
  change run37' xs es k = some res at hr
  unfold run37' at hr
  split at hr
  · rename_i z0 f0 k0 z1 f1 k1 z2 f2 k2 z f b
    obtain ⟨hc, hr⟩ := of_bif hr
    simp only [Bool.and_eq_true] at hc
    exact (g37_eq z0 f0 z1 f1 z2 f2 z f k0 k1 k2 b hc.1.1 hc.1.2 hc.2.1 hc.2.2.1 hc.2.2.2 k).trans hr
  · cases hr
end Go.Proofs.Ytcklhipdldpkhaa.Rx

namespace Go.Proofs.Ytcklhipdldpkhaa.Rx
open Go
set_option linter.unusedVariables false
set_option maxRecDepth 100000
set_option maxHeartbeats 0
theorem fo96 : Try.prog.funcs[96]? = some Try.f96 := by kernel_rfl
theorem bo96 : Try.f96.body = some (Try.f96.body.get!) := by kernel_rfl
theorem en96 : Enters Try.prog 96 := enters_of fo96 (by kernel_rfl) bo96
end Go.Proofs.Ytcklhipdldpkhaa.Rx

namespace Go.Proofs.Ytcklhipdldpkhaa.Rx
open Go
set_option linter.unusedVariables false
set_option maxRecDepth 100000
set_option maxHeartbeats 0
theorem fo98 : Try.prog.funcs[98]? = some Try.f98 := by kernel_rfl
theorem bo98 : Try.f98.body = some (Try.f98.body.get!) := by kernel_rfl
theorem en98 : Enters Try.prog 98 := enters_of fo98 (by kernel_rfl) bo98
end Go.Proofs.Ytcklhipdldpkhaa.Rx

namespace Go.Proofs.Ytcklhipdldpkhaa.Rx
open Go
set_option linter.unusedVariables false
set_option maxRecDepth 100000
set_option maxHeartbeats 0
noncomputable def F131b : Fns := F0
theorem F131b_ok : FnsOk tau Try.prog F131b := F0_ok
def an131b : An := (.seq .leaf (.seq (.seq .leaf (.cond (.seq .leaf .leaf) .leaf)) (.seq .leaf .leaf)))
noncomputable def g131b (f : Nat) (s_z : Bool) (s_f : Bool) (s : List PV) (k : Res → Option Res) : Option Res := bif s_z then k (Res.mk (.ro 5 true true []) [] []) else bif roomy (0 + s.length) 1 && true then k (Res.mk (.ow 5 16 [] 0 (0 + s.length) none) [] [.vec false 5 false s]) else none
theorem e131b (f : Nat) (s_z : Bool) (s_f : Bool) (s : List PV) (k : Res → Option Res) : evFn tau F131b Try.f131 (Try.f131.body.get!) an131b [] 0 [.ro 5 s_z s_f s] [] k = g131b f s_z s_f s k := by kernel_rfl
theorem it131b (f : Nat) : items (Try.f131.body.get!) an131b = [] := by kernel_rfl
theorem ia131b (f : Nat) : ∀ q ∈ items (Try.f131.body.get!) an131b, q.Ok tau Try.prog 0 := by
  rw [it131b f]; intro q hq; cases hq
theorem fo131b : Try.prog.funcs[131]? = some Try.f131 := by kernel_rfl
theorem bo131b : Try.f131.body = some (Try.f131.body.get!) := by kernel_rfl
theorem en131b : Enters Try.prog 131 := enters_of fo131b (by kernel_rfl) bo131b
noncomputable def run131b : List PV → List Ent → (Res → Option Res) → Option Res
  | [.ro 5 s_z s_f s], [], k => g131b 0 s_z s_f s k
  | _, _, _ => none
noncomputable def s131b : Sig := { own := [], run := run131b }
theorem ok131b : CallOk tau Try.prog 131 s131b := fn_ok tabOk F131b_ok mixed fo131b bo131b an131b [] 0 [] run131b (ia131b 0) fun xs es k res hr => by
  unfold run131b at hr
  split at hr
  · exact ⟨rfl, 0, (e131b 0 _ _ _  _).trans hr⟩
  · cases hr
end Go.Proofs.Ytcklhipdldpkhaa.Rx

namespace Go.Proofs.Ytcklhipdldpkhaa.Rx
open Go
set_option linter.unusedVariables false
set_option maxRecDepth 100000
set_option maxHeartbeats 0
noncomputable def F97 : Fns := addF 131 s131b (F0)
theorem F97_ok : FnsOk tau Try.prog F97 := (F0_ok).add ok131b en131b
def nm97_0 : Nm := [(0, .any), (1, .any), (5, .own), (6, .any)]
def x97_0 : An := (.seq .leaf (.seq .leaf (.seq .leaf (.seq .leaf (.seq (.seq .leaf (.seq .leaf (.cond .leaf .leaf))) (.seq .leaf .leaf))))))
def an97 : An := (.seq .leaf (.scope nm97_0 x97_0))
noncomputable def g97 (f : Nat) (b_z : Bool) (b_f : Bool) (b : List PV) (n : Int) (k : Res → Option Res) : Option Res := bif b_z then k (Res.mk (.ro 5 false false [.sc (.int .u8 (IntKind.u8.wrap (shrI IntKind.u64 (IntKind.u64.wrap n) (IntKind.i64.wrap (8 * 0))))), .sc (.int .u8 (IntKind.u8.wrap (shrI IntKind.u64 (IntKind.u64.wrap n) (IntKind.i64.wrap (8 * IntKind.i64.wrap (0 + 1)))))), .sc (.int .u8 (IntKind.u8.wrap (shrI IntKind.u64 (IntKind.u64.wrap n) (IntKind.i64.wrap (8 * IntKind.i64.wrap (IntKind.i64.wrap (0 + 1) + 1)))))), .sc (.int .u8 (IntKind.u8.wrap (shrI IntKind.u64 (IntKind.u64.wrap n) (IntKind.i64.wrap (8 * IntKind.i64.wrap (IntKind.i64.wrap (IntKind.i64.wrap (0 + 1) + 1) + 1)))))), .sc (.int .u8 (IntKind.u8.wrap (shrI IntKind.u64 (IntKind.u64.wrap n) (IntKind.i64.wrap (8 * IntKind.i64.wrap (IntKind.i64.wrap (IntKind.i64.wrap (IntKind.i64.wrap (0 + 1) + 1) + 1) + 1)))))), .sc (.int .u8 (IntKind.u8.wrap (shrI IntKind.u64 (IntKind.u64.wrap n) (IntKind.i64.wrap (8 * IntKind.i64.wrap (IntKind.i64.wrap (IntKind.i64.wrap (IntKind.i64.wrap (IntKind.i64.wrap (0 + 1) + 1) + 1) + 1) + 1)))))), .sc (.int .u8 (IntKind.u8.wrap (shrI IntKind.u64 (IntKind.u64.wrap n) (IntKind.i64.wrap (8 * IntKind.i64.wrap (IntKind.i64.wrap (IntKind.i64.wrap (IntKind.i64.wrap (IntKind.i64.wrap (IntKind.i64.wrap (0 + 1) + 1) + 1) + 1) + 1) + 1)))))), .sc (.int .u8 (IntKind.u8.wrap (shrI IntKind.u64 (IntKind.u64.wrap n) (IntKind.i64.wrap (8 * IntKind.i64.wrap (IntKind.i64.wrap (IntKind.i64.wrap (IntKind.i64.wrap (IntKind.i64.wrap (IntKind.i64.wrap (IntKind.i64.wrap (0 + 1) + 1) + 1) + 1) + 1) + 1) + 1))))))]) [] []) else bif roomy (0 + b.length) 1 && true then bif roomy (0 + b.length + 1) 1 && true then bif roomy (0 + b.length + 1 + 1) 1 && true then bif roomy (0 + b.length + 1 + 1 + 1) 1 && true then bif roomy (0 + b.length + 1 + 1 + 1 + 1) 1 && true then bif roomy (0 + b.length + 1 + 1 + 1 + 1 + 1) 1 && true then bif roomy (0 + b.length + 1 + 1 + 1 + 1 + 1 + 1) 1 && true then bif roomy (0 + b.length + 1 + 1 + 1 + 1 + 1 + 1 + 1) 1 && true then bif roomy (0 + b.length + 1 + 1 + 1 + 1 + 1 + 1 + 1 + 1) 1 && true then bif roomy (0 + (List.take (0 + b.length + 1 + 1 + 1 + 1 + 1 + 1 + 1 + 1) (List.take (0 + b.length + 1 + 1 + 1 + 1 + 1 + 1 + 1) (List.take (0 + b.length + 1 + 1 + 1 + 1 + 1 + 1) (List.take (0 + b.length + 1 + 1 + 1 + 1 + 1) (List.take (0 + b.length + 1 + 1 + 1 + 1) (List.take (0 + b.length + 1 + 1 + 1) (List.take (0 + b.length + 1 + 1) (List.take (0 + b.length + 1) (List.take (0 + b.length) b ++ [.sc (.int .u8 (IntKind.u8.wrap (shrI IntKind.u64 (IntKind.u64.wrap n) (IntKind.i64.wrap (8 * 0)))))]) ++ [.sc (.int .u8 (IntKind.u8.wrap (shrI IntKind.u64 (IntKind.u64.wrap n) (IntKind.i64.wrap (8 * IntKind.i64.wrap (0 + 1))))))]) ++ [.sc (.int .u8 (IntKind.u8.wrap (shrI IntKind.u64 (IntKind.u64.wrap n) (IntKind.i64.wrap (8 * IntKind.i64.wrap (IntKind.i64.wrap (0 + 1) + 1))))))]) ++ [.sc (.int .u8 (IntKind.u8.wrap (shrI IntKind.u64 (IntKind.u64.wrap n) (IntKind.i64.wrap (8 * IntKind.i64.wrap (IntKind.i64.wrap (IntKind.i64.wrap (0 + 1) + 1) + 1))))))]) ++ [.sc (.int .u8 (IntKind.u8.wrap (shrI IntKind.u64 (IntKind.u64.wrap n) (IntKind.i64.wrap (8 * IntKind.i64.wrap (IntKind.i64.wrap (IntKind.i64.wrap (IntKind.i64.wrap (0 + 1) + 1) + 1) + 1))))))]) ++ [.sc (.int .u8 (IntKind.u8.wrap (shrI IntKind.u64 (IntKind.u64.wrap n) (IntKind.i64.wrap (8 * IntKind.i64.wrap (IntKind.i64.wrap (IntKind.i64.wrap (IntKind.i64.wrap (IntKind.i64.wrap (0 + 1) + 1) + 1) + 1) + 1))))))]) ++ [.sc (.int .u8 (IntKind.u8.wrap (shrI IntKind.u64 (IntKind.u64.wrap n) (IntKind.i64.wrap (8 * IntKind.i64.wrap (IntKind.i64.wrap (IntKind.i64.wrap (IntKind.i64.wrap (IntKind.i64.wrap (IntKind.i64.wrap (0 + 1) + 1) + 1) + 1) + 1) + 1))))))]) ++ [.sc (.int .u8 (IntKind.u8.wrap (shrI IntKind.u64 (IntKind.u64.wrap n) (IntKind.i64.wrap (8 * IntKind.i64.wrap (IntKind.i64.wrap (IntKind.i64.wrap (IntKind.i64.wrap (IntKind.i64.wrap (IntKind.i64.wrap (IntKind.i64.wrap (0 + 1) + 1) + 1) + 1) + 1) + 1) + 1))))))])).length) 1 && true then k (Res.mk (.ro 5 false false (List.take (0 + (List.take (0 + b.length + 1 + 1 + 1 + 1 + 1 + 1 + 1 + 1) (List.take (0 + b.length + 1 + 1 + 1 + 1 + 1 + 1 + 1) (List.take (0 + b.length + 1 + 1 + 1 + 1 + 1 + 1) (List.take (0 + b.length + 1 + 1 + 1 + 1 + 1) (List.take (0 + b.length + 1 + 1 + 1 + 1) (List.take (0 + b.length + 1 + 1 + 1) (List.take (0 + b.length + 1 + 1) (List.take (0 + b.length + 1) (List.take (0 + b.length) b ++ [.sc (.int .u8 (IntKind.u8.wrap (shrI IntKind.u64 (IntKind.u64.wrap n) (IntKind.i64.wrap (8 * 0)))))]) ++ [.sc (.int .u8 (IntKind.u8.wrap (shrI IntKind.u64 (IntKind.u64.wrap n) (IntKind.i64.wrap (8 * IntKind.i64.wrap (0 + 1))))))]) ++ [.sc (.int .u8 (IntKind.u8.wrap (shrI IntKind.u64 (IntKind.u64.wrap n) (IntKind.i64.wrap (8 * IntKind.i64.wrap (IntKind.i64.wrap (0 + 1) + 1))))))]) ++ [.sc (.int .u8 (IntKind.u8.wrap (shrI IntKind.u64 (IntKind.u64.wrap n) (IntKind.i64.wrap (8 * IntKind.i64.wrap (IntKind.i64.wrap (IntKind.i64.wrap (0 + 1) + 1) + 1))))))]) ++ [.sc (.int .u8 (IntKind.u8.wrap (shrI IntKind.u64 (IntKind.u64.wrap n) (IntKind.i64.wrap (8 * IntKind.i64.wrap (IntKind.i64.wrap (IntKind.i64.wrap (IntKind.i64.wrap (0 + 1) + 1) + 1) + 1))))))]) ++ [.sc (.int .u8 (IntKind.u8.wrap (shrI IntKind.u64 (IntKind.u64.wrap n) (IntKind.i64.wrap (8 * IntKind.i64.wrap (IntKind.i64.wrap (IntKind.i64.wrap (IntKind.i64.wrap (IntKind.i64.wrap (0 + 1) + 1) + 1) + 1) + 1))))))]) ++ [.sc (.int .u8 (IntKind.u8.wrap (shrI IntKind.u64 (IntKind.u64.wrap n) (IntKind.i64.wrap (8 * IntKind.i64.wrap (IntKind.i64.wrap (IntKind.i64.wrap (IntKind.i64.wrap (IntKind.i64.wrap (IntKind.i64.wrap (0 + 1) + 1) + 1) + 1) + 1) + 1))))))]) ++ [.sc (.int .u8 (IntKind.u8.wrap (shrI IntKind.u64 (IntKind.u64.wrap n) (IntKind.i64.wrap (8 * IntKind.i64.wrap (IntKind.i64.wrap (IntKind.i64.wrap (IntKind.i64.wrap (IntKind.i64.wrap (IntKind.i64.wrap (IntKind.i64.wrap (0 + 1) + 1) + 1) + 1) + 1) + 1) + 1))))))])).length) (List.take (0 + b.length + 1 + 1 + 1 + 1 + 1 + 1 + 1 + 1) (List.take (0 + b.length + 1 + 1 + 1 + 1 + 1 + 1 + 1) (List.take (0 + b.length + 1 + 1 + 1 + 1 + 1 + 1) (List.take (0 + b.length + 1 + 1 + 1 + 1 + 1) (List.take (0 + b.length + 1 + 1 + 1 + 1) (List.take (0 + b.length + 1 + 1 + 1) (List.take (0 + b.length + 1 + 1) (List.take (0 + b.length + 1) (List.take (0 + b.length) b ++ [.sc (.int .u8 (IntKind.u8.wrap (shrI IntKind.u64 (IntKind.u64.wrap n) (IntKind.i64.wrap (8 * 0)))))]) ++ [.sc (.int .u8 (IntKind.u8.wrap (shrI IntKind.u64 (IntKind.u64.wrap n) (IntKind.i64.wrap (8 * IntKind.i64.wrap (0 + 1))))))]) ++ [.sc (.int .u8 (IntKind.u8.wrap (shrI IntKind.u64 (IntKind.u64.wrap n) (IntKind.i64.wrap (8 * IntKind.i64.wrap (IntKind.i64.wrap (0 + 1) + 1))))))]) ++ [.sc (.int .u8 (IntKind.u8.wrap (shrI IntKind.u64 (IntKind.u64.wrap n) (IntKind.i64.wrap (8 * IntKind.i64.wrap (IntKind.i64.wrap (IntKind.i64.wrap (0 + 1) + 1) + 1))))))]) ++ [.sc (.int .u8 (IntKind.u8.wrap (shrI IntKind.u64 (IntKind.u64.wrap n) (IntKind.i64.wrap (8 * IntKind.i64.wrap (IntKind.i64.wrap (IntKind.i64.wrap (IntKind.i64.wrap (0 + 1) + 1) + 1) + 1))))))]) ++ [.sc (.int .u8 (IntKind.u8.wrap (shrI IntKind.u64 (IntKind.u64.wrap n) (IntKind.i64.wrap (8 * IntKind.i64.wrap (IntKind.i64.wrap (IntKind.i64.wrap (IntKind.i64.wrap (IntKind.i64.wrap (0 + 1) + 1) + 1) + 1) + 1))))))]) ++ [.sc (.int .u8 (IntKind.u8.wrap (shrI IntKind.u64 (IntKind.u64.wrap n) (IntKind.i64.wrap (8 * IntKind.i64.wrap (IntKind.i64.wrap (IntKind.i64.wrap (IntKind.i64.wrap (IntKind.i64.wrap (IntKind.i64.wrap (0 + 1) + 1) + 1) + 1) + 1) + 1))))))]) ++ [.sc (.int .u8 (IntKind.u8.wrap (shrI IntKind.u64 (IntKind.u64.wrap n) (IntKind.i64.wrap (8 * IntKind.i64.wrap (IntKind.i64.wrap (IntKind.i64.wrap (IntKind.i64.wrap (IntKind.i64.wrap (IntKind.i64.wrap (IntKind.i64.wrap (0 + 1) + 1) + 1) + 1) + 1) + 1) + 1))))))])))) [] []) else none else none else none else none else none else none else none else none else none else none
theorem e97 (f : Nat) (b_z : Bool) (b_f : Bool) (b : List PV) (n : Int) (k : Res → Option Res) : evFn tau F97 Try.f97 (Try.f97.body.get!) an97 [.ro] 12 [.ro 5 b_z b_f b, .sc (.int .i64 n)] [] k = g97 f b_z b_f b n k := by kernel_rfl
theorem it97 (f : Nat) : items (Try.f97.body.get!) an97 = [] := by kernel_rfl
theorem ia97 (f : Nat) : ∀ q ∈ items (Try.f97.body.get!) an97, q.Ok tau Try.prog 0 := by
  rw [it97 f]; intro q hq; cases hq
theorem fo97 : Try.prog.funcs[97]? = some Try.f97 := by kernel_rfl
theorem bo97 : Try.f97.body = some (Try.f97.body.get!) := by kernel_rfl
theorem en97 : Enters Try.prog 97 := enters_of fo97 (by kernel_rfl) bo97
end Go.Proofs.Ytcklhipdldpkhaa.Rx

namespace Go.Proofs.Ytcklhipdldpkhaa.Rx
open Go
set_option linter.unusedVariables false
set_option maxRecDepth 100000
set_option maxHeartbeats 0
noncomputable def F110 : Fns := F0
theorem F110_ok : FnsOk tau Try.prog F110 := F0_ok
def an110 : An := (.seq .leaf (.seq .leaf .leaf))
noncomputable def g110 (f : Nat) (n : Int) (k : Res → Option Res) : Option Res := k (Res.mk (.ow 5 16 [] 0 1 none) [] [.vec false 5 false [.sc (.int .u8 (IntKind.u8.wrap n))]])
theorem e110 (f : Nat) (n : Int) (k : Res → Option Res) : evFn tau F110 Try.f110 (Try.f110.body.get!) an110 [] 0 [.ro 5 true true [], .sc (.int .i64 n)] [] k = g110 f n k := by kernel_rfl
theorem it110 (f : Nat) : items (Try.f110.body.get!) an110 = [] := by kernel_rfl
theorem ia110 (f : Nat) : ∀ q ∈ items (Try.f110.body.get!) an110, q.Ok tau Try.prog 0 := by
  rw [it110 f]; intro q hq; cases hq
theorem fo110 : Try.prog.funcs[110]? = some Try.f110 := by kernel_rfl
theorem bo110 : Try.f110.body = some (Try.f110.body.get!) := by kernel_rfl
theorem en110 : Enters Try.prog 110 := enters_of fo110 (by kernel_rfl) bo110
end Go.Proofs.Ytcklhipdldpkhaa.Rx

namespace Go.Proofs.Ytcklhipdldpkhaa.Rx
open Go
set_option linter.unusedVariables false
set_option maxRecDepth 100000
set_option maxHeartbeats 0
noncomputable def F110b : Fns := F0
theorem F110b_ok : FnsOk tau Try.prog F110b := F0_ok
def an110b : An := (.seq .leaf (.seq .leaf .leaf))
noncomputable def g110b (f : Nat) (nl : Bool) (l : List PV) (m : Nat) (n : Int) (k : Res → Option Res) : Option Res := bif roomy (m + 1) 1 && true then k (Res.mk (.ow 5 16 [] 0 (m + 1) none) [.dead] [.vec false 5 (nl && false) (List.take m l ++ [.sc (.int .u8 (IntKind.u8.wrap n))])]) else none
theorem e110b (f : Nat) (nl : Bool) (l : List PV) (m : Nat) (n : Int) (k : Res → Option Res) : evFn tau F110b Try.f110 (Try.f110.body.get!) an110b [] 0 [.ow 5 0 [] 0 m none, .sc (.int .i64 n)] [.vec false 5 nl l] k = g110b f nl l m n k := by kernel_rfl
theorem it110b (f : Nat) : items (Try.f110.body.get!) an110b = [] := by kernel_rfl
theorem ia110b (f : Nat) : ∀ q ∈ items (Try.f110.body.get!) an110b, q.Ok tau Try.prog 1 := by
  rw [it110b f]; intro q hq; cases hq
theorem fo110b : Try.prog.funcs[110]? = some Try.f110 := by kernel_rfl
theorem bo110b : Try.f110.body = some (Try.f110.body.get!) := by kernel_rfl
end Go.Proofs.Ytcklhipdldpkhaa.Rx

namespace Go.Proofs.Ytcklhipdldpkhaa.Rx
open Go
set_option linter.unusedVariables false
set_option maxRecDepth 100000
set_option maxHeartbeats 0
noncomputable def F108 : Fns := F0
theorem F108_ok : FnsOk tau Try.prog F108 := F0_ok
def nm108_0 : Nm := [(0, .own), (1, .any), (5, .any)]
def x108_0 : An := (.seq (.seq .leaf (.cond .leaf .leaf)) (.seq (.block none .leaf) .leaf))
def an108 : An := (.seq .leaf (.seq (.seq .leaf (.block none (.loop nm108_0 x108_0))) (.seq .leaf .leaf)))
noncomputable def g108 (f : Nat) (n : Int) (k : Res → Option Res) : Option Res := k (Res.mk (.ow 5 16 [] 0 8 none) [] [.vec false 5 false [.sc (.int .u8 (IntKind.u8.wrap (shrI IntKind.u64 (IntKind.u64.wrap n) (IntKind.u64.wrap (8 * IntKind.u64.wrap 0))))), .sc (.int .u8 (IntKind.u8.wrap (shrI IntKind.u64 (IntKind.u64.wrap n) (IntKind.u64.wrap (8 * IntKind.u64.wrap (IntKind.i64.wrap (0 + 1))))))), .sc (.int .u8 (IntKind.u8.wrap (shrI IntKind.u64 (IntKind.u64.wrap n) (IntKind.u64.wrap (8 * IntKind.u64.wrap (IntKind.i64.wrap (IntKind.i64.wrap (0 + 1) + 1))))))), .sc (.int .u8 (IntKind.u8.wrap (shrI IntKind.u64 (IntKind.u64.wrap n) (IntKind.u64.wrap (8 * IntKind.u64.wrap (IntKind.i64.wrap (IntKind.i64.wrap (IntKind.i64.wrap (0 + 1) + 1) + 1))))))), .sc (.int .u8 (IntKind.u8.wrap (shrI IntKind.u64 (IntKind.u64.wrap n) (IntKind.u64.wrap (8 * IntKind.u64.wrap (IntKind.i64.wrap (IntKind.i64.wrap (IntKind.i64.wrap (IntKind.i64.wrap (0 + 1) + 1) + 1) + 1))))))), .sc (.int .u8 (IntKind.u8.wrap (shrI IntKind.u64 (IntKind.u64.wrap n) (IntKind.u64.wrap (8 * IntKind.u64.wrap (IntKind.i64.wrap (IntKind.i64.wrap (IntKind.i64.wrap (IntKind.i64.wrap (IntKind.i64.wrap (0 + 1) + 1) + 1) + 1) + 1))))))), .sc (.int .u8 (IntKind.u8.wrap (shrI IntKind.u64 (IntKind.u64.wrap n) (IntKind.u64.wrap (8 * IntKind.u64.wrap (IntKind.i64.wrap (IntKind.i64.wrap (IntKind.i64.wrap (IntKind.i64.wrap (IntKind.i64.wrap (IntKind.i64.wrap (0 + 1) + 1) + 1) + 1) + 1) + 1))))))), .sc (.int .u8 (IntKind.u8.wrap (shrI IntKind.u64 (IntKind.u64.wrap n) (IntKind.u64.wrap (8 * IntKind.u64.wrap (IntKind.i64.wrap (IntKind.i64.wrap (IntKind.i64.wrap (IntKind.i64.wrap (IntKind.i64.wrap (IntKind.i64.wrap (IntKind.i64.wrap (0 + 1) + 1) + 1) + 1) + 1) + 1) + 1)))))))]])
theorem e108 (f : Nat) (n : Int) (k : Res → Option Res) : evFn tau F108 Try.f108 (Try.f108.body.get!) an108 [] 12 [.ro 5 true true [], .sc (.int .i64 n)] [] k = g108 f n k := by kernel_rfl
theorem it108 (f : Nat) : items (Try.f108.body.get!) an108 = [] := by kernel_rfl
theorem ia108 (f : Nat) : ∀ q ∈ items (Try.f108.body.get!) an108, q.Ok tau Try.prog 0 := by
  rw [it108 f]; intro q hq; cases hq
theorem fo108 : Try.prog.funcs[108]? = some Try.f108 := by kernel_rfl
theorem bo108 : Try.f108.body = some (Try.f108.body.get!) := by kernel_rfl
theorem en108 : Enters Try.prog 108 := enters_of fo108 (by kernel_rfl) bo108
end Go.Proofs.Ytcklhipdldpkhaa.Rx

namespace Go.Proofs.Ytcklhipdldpkhaa.Rx
open Go
set_option linter.unusedVariables false
set_option maxRecDepth 100000
set_option maxHeartbeats 0
noncomputable def F108b : Fns := F0
theorem F108b_ok : FnsOk tau Try.prog F108b := F0_ok
def nm108b_0 : Nm := [(0, .own), (1, .any), (5, .any)]
def x108b_0 : An := (.seq (.seq .leaf (.cond .leaf .leaf)) (.seq (.block none .leaf) .leaf))
def an108b : An := (.seq .leaf (.seq (.seq .leaf (.block none (.loop nm108b_0 x108b_0))) (.seq .leaf .leaf)))
noncomputable def g108b (f : Nat) (nl : Bool) (l : List PV) (m : Nat) (n : Int) (k : Res → Option Res) : Option Res := bif roomy (m + 1) 1 && true then bif roomy (m + 1 + 1) 1 && true then bif roomy (m + 1 + 1 + 1) 1 && true then bif roomy (m + 1 + 1 + 1 + 1) 1 && true then bif roomy (m + 1 + 1 + 1 + 1 + 1) 1 && true then bif roomy (m + 1 + 1 + 1 + 1 + 1 + 1) 1 && true then bif roomy (m + 1 + 1 + 1 + 1 + 1 + 1 + 1) 1 && true then bif roomy (m + 1 + 1 + 1 + 1 + 1 + 1 + 1 + 1) 1 && true then k (Res.mk (.ow 5 16 [] 0 (m + 1 + 1 + 1 + 1 + 1 + 1 + 1 + 1) none) [.dead] [.vec false 5 (nl && false && false && false && false && false && false && false && false) (List.take (m + 1 + 1 + 1 + 1 + 1 + 1 + 1) (List.take (m + 1 + 1 + 1 + 1 + 1 + 1) (List.take (m + 1 + 1 + 1 + 1 + 1) (List.take (m + 1 + 1 + 1 + 1) (List.take (m + 1 + 1 + 1) (List.take (m + 1 + 1) (List.take (m + 1) (List.take m l ++ [.sc (.int .u8 (IntKind.u8.wrap (shrI IntKind.u64 (IntKind.u64.wrap n) (IntKind.u64.wrap (8 * IntKind.u64.wrap 0)))))]) ++ [.sc (.int .u8 (IntKind.u8.wrap (shrI IntKind.u64 (IntKind.u64.wrap n) (IntKind.u64.wrap (8 * IntKind.u64.wrap (IntKind.i64.wrap (0 + 1)))))))]) ++ [.sc (.int .u8 (IntKind.u8.wrap (shrI IntKind.u64 (IntKind.u64.wrap n) (IntKind.u64.wrap (8 * IntKind.u64.wrap (IntKind.i64.wrap (IntKind.i64.wrap (0 + 1) + 1)))))))]) ++ [.sc (.int .u8 (IntKind.u8.wrap (shrI IntKind.u64 (IntKind.u64.wrap n) (IntKind.u64.wrap (8 * IntKind.u64.wrap (IntKind.i64.wrap (IntKind.i64.wrap (IntKind.i64.wrap (0 + 1) + 1) + 1)))))))]) ++ [.sc (.int .u8 (IntKind.u8.wrap (shrI IntKind.u64 (IntKind.u64.wrap n) (IntKind.u64.wrap (8 * IntKind.u64.wrap (IntKind.i64.wrap (IntKind.i64.wrap (IntKind.i64.wrap (IntKind.i64.wrap (0 + 1) + 1) + 1) + 1)))))))]) ++ [.sc (.int .u8 (IntKind.u8.wrap (shrI IntKind.u64 (IntKind.u64.wrap n) (IntKind.u64.wrap (8 * IntKind.u64.wrap (IntKind.i64.wrap (IntKind.i64.wrap (IntKind.i64.wrap (IntKind.i64.wrap (IntKind.i64.wrap (0 + 1) + 1) + 1) + 1) + 1)))))))]) ++ [.sc (.int .u8 (IntKind.u8.wrap (shrI IntKind.u64 (IntKind.u64.wrap n) (IntKind.u64.wrap (8 * IntKind.u64.wrap (IntKind.i64.wrap (IntKind.i64.wrap (IntKind.i64.wrap (IntKind.i64.wrap (IntKind.i64.wrap (IntKind.i64.wrap (0 + 1) + 1) + 1) + 1) + 1) + 1)))))))]) ++ [.sc (.int .u8 (IntKind.u8.wrap (shrI IntKind.u64 (IntKind.u64.wrap n) (IntKind.u64.wrap (8 * IntKind.u64.wrap (IntKind.i64.wrap (IntKind.i64.wrap (IntKind.i64.wrap (IntKind.i64.wrap (IntKind.i64.wrap (IntKind.i64.wrap (IntKind.i64.wrap (0 + 1) + 1) + 1) + 1) + 1) + 1) + 1)))))))])]) else none else none else none else none else none else none else none else none
theorem e108b (f : Nat) (nl : Bool) (l : List PV) (m : Nat) (n : Int) (k : Res → Option Res) : evFn tau F108b Try.f108 (Try.f108.body.get!) an108b [] 12 [.ow 5 0 [] 0 m none, .sc (.int .i64 n)] [.vec false 5 nl l] k = g108b f nl l m n k := by kernel_rfl
theorem it108b (f : Nat) : items (Try.f108.body.get!) an108b = [] := by kernel_rfl
theorem ia108b (f : Nat) : ∀ q ∈ items (Try.f108.body.get!) an108b, q.Ok tau Try.prog 1 := by
  rw [it108b f]; intro q hq; cases hq
theorem fo108b : Try.prog.funcs[108]? = some Try.f108 := by kernel_rfl
theorem bo108b : Try.f108.body = some (Try.f108.body.get!) := by kernel_rfl
end Go.Proofs.Ytcklhipdldpkhaa.Rx

namespace Go.Proofs.Ytcklhipdldpkhaa.Rx
open Go
set_option linter.unusedVariables false
set_option maxRecDepth 100000
set_option maxHeartbeats 0
noncomputable def F109b : Fns := F0
theorem F109b_ok : FnsOk tau Try.prog F109b := F0_ok
def an109b : An := (.seq .leaf (.seq (.seq .leaf (.cond .leaf .leaf)) (.seq .leaf .leaf)))
noncomputable def g109b (f : Nat) (nl : Bool) (l : List PV) (m : Nat) (s : ByteArray) (k : Res → Option Res) : Option Res := bif decide (zi s.size > 65535) then bif decide (65535 ≤ s.size) && true then bif roomy (m + 2) 1 && true then bif roomy (m + 2 + (ofBytes (s.extract 0 65535)).length) 1 && true then k (Res.mk (.ow 5 16 [] 0 (m + 2 + (ofBytes (s.extract 0 65535)).length) none) [.dead] [.vec false 5 (nl && false && (ofBytes (s.extract 0 65535)).isEmpty) (List.take (m + 2) (List.take m l ++ [.sc (.int .u8 (IntKind.u8.wrap (zi (s.extract 0 65535).size))), .sc (.int .u8 (IntKind.u8.wrap (shrI IntKind.i64 (zi (s.extract 0 65535).size) 8)))]) ++ ofBytes (s.extract 0 65535))]) else none else none else none else bif roomy (m + 2) 1 && true then bif roomy (m + 2 + (ofBytes s).length) 1 && true then k (Res.mk (.ow 5 16 [] 0 (m + 2 + (ofBytes s).length) none) [.dead] [.vec false 5 (nl && false && (ofBytes s).isEmpty) (List.take (m + 2) (List.take m l ++ [.sc (.int .u8 (IntKind.u8.wrap (zi s.size))), .sc (.int .u8 (IntKind.u8.wrap (shrI IntKind.i64 (zi s.size) 8)))]) ++ ofBytes s)]) else none else none
theorem e109b (f : Nat) (nl : Bool) (l : List PV) (m : Nat) (s : ByteArray) (k : Res → Option Res) : evFn tau F109b Try.f109 (Try.f109.body.get!) an109b [] 0 [.ow 5 0 [] 0 m none, .sc (.string s)] [.vec false 5 nl l] k = g109b f nl l m s k := by kernel_rfl
theorem it109b (f : Nat) : items (Try.f109.body.get!) an109b = [] := by kernel_rfl
theorem ia109b (f : Nat) : ∀ q ∈ items (Try.f109.body.get!) an109b, q.Ok tau Try.prog 1 := by
  rw [it109b f]; intro q hq; cases hq
theorem fo109b : Try.prog.funcs[109]? = some Try.f109 := by kernel_rfl
theorem bo109b : Try.f109.body = some (Try.f109.body.get!) := by kernel_rfl
theorem en109b : Enters Try.prog 109 := enters_of fo109b (by kernel_rfl) bo109b
end Go.Proofs.Ytcklhipdldpkhaa.Rx

-- FN code.Byte | code.Text | code.Int | ref1.Byte | ref1.Int | ref1.Text
namespace Go.Proofs.Ytcklhipdldpkhaa.Rx
open Go
set_option linter.unusedVariables false
set_option linter.unusedSimpArgs false
set_option maxRecDepth 100000
set_option maxHeartbeats 1000000
def ib (n i : Int) : Int := IntKind.u8.wrap (shrI .u64 (IntKind.u64.wrap n) (8 * i))
def intB0 (n : Int) : List Int := [ib n 0, ib n 1, ib n 2, ib n 3, ib n 4, ib n 5, ib n 6, ib n 7]
noncomputable def intB : Int → List Int := hid intB0
theorem intB_eq (n : Int) : intB n = intB0 n := by rw [intB, hid_eq]
@[simp] theorem intB_length (n : Int) : (intB n).length = 8 := by rw [intB_eq]; rfl
/-- a text's bytes -/
def bsI0 (s : ByteArray) : List Int := s.data.toList.map fun b => (b.toNat : Int)
noncomputable def bsI : ByteArray → List Int := hid bsI0
theorem bsI_eq (s : ByteArray) : bsI s = bsI0 s := by rw [bsI, hid_eq]
theorem ofBytes_pu (s : ByteArray) : ofBytes s = pu .u8 (bsI s) := by rw [bsI_eq]; simp [ofBytes, pu, bsI0]
@[simp] theorem bsI_length (s : ByteArray) : (bsI s).length = s.size := by rw [bsI_eq]; simp [bsI0]
theorem bsI_by (s : ByteArray) : ∀ x ∈ bsI s, 0 ≤ x ∧ x < 256 := by
  intro x hx
  rw [bsI_eq] at hx
  obtain ⟨b, _, rfl⟩ := List.mem_map.1 hx
  have := b.toNat_lt
  omega
noncomputable def textB0 (s : ByteArray) : List Int := [IntKind.u8.wrap (zi s.size), IntKind.u8.wrap (shrI .i64 (zi s.size) 8)] ++ bsI s
noncomputable def textB : ByteArray → List Int := hid textB0
theorem textB_eq (s : ByteArray) : textB s = textB0 s := by rw [textB, hid_eq]
@[simp] theorem textB_length (s : ByteArray) : (textB s).length = s.size + 2 := by rw [textB_eq]; simp [textB0]
theorem wrap_by (x : Int) : 0 ≤ IntKind.u8.wrap x ∧ IntKind.u8.wrap x < 256 := by rw [wrap_u8_eq]; omega
theorem intB_by (n : Int) : ∀ x ∈ intB n, 0 ≤ x ∧ x < 256 := by
  rw [intB_eq]; intro x hx
  simp only [intB0, List.mem_cons, List.not_mem_nil, or_false] at hx
  rcases hx with h | h | h | h | h | h | h | h <;> (rw [h]; exact wrap_by _)
theorem textB_by (s : ByteArray) : ∀ x ∈ textB s, 0 ≤ x ∧ x < 256 := by
  rw [textB_eq]; intro x hx
  rcases List.mem_append.1 hx with hx | hx
  · simp only [List.mem_cons, List.not_mem_nil, or_false] at hx
    rcases hx with h | h <;> (rw [h]; exact wrap_by _)
  · exact bsI_by s x hx
theorem g97_nil (f : Bool) (b : List PV) (n : Int) (k : Res → Option Res) : g97 0 true f b n k = k ⟨.ro 5 false false (pu .u8 (intB n)), [], []⟩ := by
  rw [intB_eq]; kernel_rfl
theorem g97_b (f : Bool) (b : List PV) (hb : b.length ≤ 1000000000) (n : Int) (k : Res → Option Res) : g97 0 false f b n k = k ⟨.ro 5 false false (b ++ pu .u8 (intB n)), [], []⟩ := by
  rw [intB_eq]
  unfold g97
  refine (bif_f rfl).trans ?_
  repeat (refine (bif_t (by simp [roomy]; omega)).trans ?_)
  repeat rw [List.take_of_length_le (by simp <;> omega)]
  simp only [List.nil_append, List.append_assoc]
  rfl
noncomputable def run97' : List PV → List Ent → (Res → Option Res) → Option Res
  | [.ro 5 z f b, .sc (.int .i64 n)], [], k => bif slB z b then k ⟨.ro 5 false false (b ++ pu .u8 (intB n)), [], []⟩ else none
  | _, _, _ => none
noncomputable def s97' : Sig := { own := [], run := run97' }
theorem ok97' : CallOk tau Try.prog 97 s97' := CallOk.mk' fun xs es k res hl hr => by
  change run97' xs es k = some res at hr
  unfold run97' at hr
  split at hr
  · rename_i z f b n
    obtain ⟨hc, hr2⟩ := of_bif hr
    clear hr
    obtain ⟨h1, h2⟩ := slB_iff.1 hc
    have hg : g97 0 z f b n k = some res := by
      cases z with
      | true => obtain rfl := h1 rfl; rw [g97_nil]; exact hr2
      | false => rw [g97_b f b h2]; exact hr2
    exact fn_at tabOk F97_ok mixed fo97 bo97 an97 [.ro] 0 12 (ia97 0) hl rfl ((e97 0 z f b n k).trans hg)
  · cases hr
theorem extract_all (s : ByteArray) : s.extract 0 s.size = s := by
  apply ByteArray.ext
  simp [ByteArray.data_extract]
noncomputable def run110' : List PV → List Ent → (Res → Option Res) → Option Res
  | [.ro 5 true true [], .sc (.int .i64 n)], [], k => k ⟨.ow 5 16 [] 0 1 none, [], [.vec false 5 false (pu .u8 [IntKind.u8.wrap n])]⟩
  | [.ow 5 0 [] 0 m none, .sc (.int .i64 n)], [.vec false 5 nl l], k => bif Nat.beq m l.length && Nat.ble l.length 1000000000 then k ⟨.ow 5 16 [] 0 (m + 1) none, [.dead], [.vec false 5 false (l ++ pu .u8 [IntKind.u8.wrap n])]⟩ else none
  | _, _, _ => none
noncomputable def s110' : Sig := { own := [true], run := run110' }
theorem ok110' : CallOk tau Try.prog 110 s110' := CallOk.mk' fun xs es k res hl hr => by
  change run110' xs es k = some res at hr
  unfold run110' at hr
  split at hr
  · rename_i n
    exact fn_at tabOk F110_ok mixed fo110 bo110 an110 [] 0 0 (ia110 0) hl rfl ((e110 0 n k).trans hr)
  · rename_i m n nl l
    obtain ⟨hc, hr⟩ := of_bif hr
    rw [Bool.and_eq_true, Nat.beq_eq, Nat.ble_eq] at hc
    obtain ⟨rfl, hc⟩ := hc
    have hg : g110b 0 nl l l.length n k = some res := by
      unfold g110b
      rw [bif_t (by simp [roomy]; omega), List.take_length, Bool.and_false]
      exact hr
    exact fn_at tabOk F110b_ok mixed fo110b bo110b an110b [] 1 0 (ia110b 0) hl rfl ((e110b 0 nl l l.length n k).trans hg)
  · cases hr
noncomputable def run108' : List PV → List Ent → (Res → Option Res) → Option Res
  | [.ro 5 true true [], .sc (.int .i64 n)], [], k => k ⟨.ow 5 16 [] 0 8 none, [], [.vec false 5 false (pu .u8 (intB n))]⟩
  | [.ow 5 0 [] 0 m none, .sc (.int .i64 n)], [.vec false 5 nl l], k => bif Nat.beq m l.length && Nat.ble l.length 1000000000 then k ⟨.ow 5 16 [] 0 (m + 8) none, [.dead], [.vec false 5 false (l ++ pu .u8 (intB n))]⟩ else none
  | _, _, _ => none
noncomputable def s108' : Sig := { own := [true], run := run108' }
theorem g108_nil (n : Int) (k : Res → Option Res) : g108 0 n k = k ⟨.ow 5 16 [] 0 8 none, [], [.vec false 5 false (pu .u8 (intB n))]⟩ := by
  rw [intB_eq]; kernel_rfl
theorem g108_own (nl : Bool) (l : List PV) (hl : l.length ≤ 1000000000) (n : Int) (k : Res → Option Res) : g108b 0 nl l l.length n k = k ⟨.ow 5 16 [] 0 (l.length + 8) none, [.dead], [.vec false 5 false (l ++ pu .u8 (intB n))]⟩ := by
  rw [intB_eq]
  unfold g108b
  repeat (refine (bif_t (by simp [roomy]; omega)).trans ?_)
  repeat rw [List.take_of_length_le (by simp <;> omega)]
  simp only [Bool.and_false, List.append_assoc]
  rfl
theorem ok108' : CallOk tau Try.prog 108 s108' := CallOk.mk' fun xs es k res hl hr => by
  change run108' xs es k = some res at hr
  unfold run108' at hr
  split at hr
  · rename_i n
    exact fn_at tabOk F108_ok mixed fo108 bo108 an108 [] 0 12 (ia108 0) hl rfl ((e108 0 n k).trans ((g108_nil n k).trans hr))
  · rename_i m n nl l
    obtain ⟨hc, hr⟩ := of_bif hr
    rw [Bool.and_eq_true, Nat.beq_eq, Nat.ble_eq] at hc
    obtain ⟨rfl, hc⟩ := hc
    exact fn_at tabOk F108b_ok mixed fo108b bo108b an108b [] 1 12 (ia108b 0) hl rfl ((e108b 0 nl l l.length n k).trans ((g108_own nl l hc n k).trans hr))
  · cases hr
noncomputable def run109' : List PV → List Ent → (Res → Option Res) → Option Res
  | [.ow 5 0 [] 0 m none, .sc (.string s)], [.vec false 5 nl l], k => bif Nat.beq m l.length && Nat.ble l.length 1000000000 && Nat.ble s.size 65535 then k ⟨.ow 5 16 [] 0 (m + (s.size + 2)) none, [.dead], [.vec false 5 false (l ++ pu .u8 (textB s))]⟩ else none
  | _, _, _ => none
noncomputable def s109' : Sig := { own := [true], run := run109' }
theorem ok109' : CallOk tau Try.prog 109 s109' := CallOk.mk' fun xs es k res hl hr => by
  change run109' xs es k = some res at hr
  unfold run109' at hr
  split at hr
  · rename_i m s nl l
    obtain ⟨hc, hr⟩ := of_bif hr
    rw [Bool.and_eq_true, Bool.and_eq_true, Nat.beq_eq, Nat.ble_eq, Nat.ble_eq] at hc
    obtain ⟨⟨rfl, hc⟩, hs⟩ := hc
    have hg : g109b 0 nl l l.length s k = some res := by
      unfold g109b
      have hob : (ofBytes s).length = s.size := by rw [ofBytes_pu]; simp
      rw [bif_f (by simp only [zi, decide_eq_false_iff_not]; omega), bif_t (by simp [roomy]; omega), bif_t (by simp [roomy, hob]; omega), List.take_length, List.take_of_length_le (by simp), hob, Bool.and_false, Bool.false_and]
      rw [textB_eq, textB0] at hr
      rw [ofBytes_pu, show l.length + 2 + s.size = l.length + (s.size + 2) from by omega]
      simpa [pu] using hr
    exact fn_at tabOk F109b_ok mixed fo109b bo109b an109b [] 1 0 (ia109b 0) hl rfl ((e109b 0 nl l l.length s k).trans hg)
  · cases hr
end Go.Proofs.Ytcklhipdldpkhaa.Rx

namespace Go.Proofs.Ytcklhipdldpkhaa.Rx
open Go
set_option linter.unusedVariables false
set_option linter.unusedSimpArgs false
set_option maxRecDepth 100000
set_option maxHeartbeats 1000000
theorem ib_eq (n : Int) (i : Nat) (h : 8 * i < 64) : ib n i = (n % 18446744073709551616) / (2 ^ (8 * i)) % 256 := by
  unfold ib shrI
  rw [wrap_u8_eq, wrap_u64_eq]
  have : min (8 * (i : Int)).toNat IntKind.u64.bits = 8 * i := by
    show min _ 64 = _
    omega
  rw [this, Int.fdiv_eq_ediv_of_nonneg _ (Int.pow_nonneg (by decide))]
theorem numL_intB (n : Int) : numL (intB n) = n % 18446744073709551616 := by
  rw [intB_eq]
  simp only [intB0, numL]
  have e0 : ib n 0 = n % 18446744073709551616 / 2 ^ (8 * 0) % 256 := ib_eq n 0 (by decide)
  have e1 : ib n 1 = n % 18446744073709551616 / 2 ^ (8 * 1) % 256 := ib_eq n 1 (by decide)
  have e2 : ib n 2 = n % 18446744073709551616 / 2 ^ (8 * 2) % 256 := ib_eq n 2 (by decide)
  have e3 : ib n 3 = n % 18446744073709551616 / 2 ^ (8 * 3) % 256 := ib_eq n 3 (by decide)
  have e4 : ib n 4 = n % 18446744073709551616 / 2 ^ (8 * 4) % 256 := ib_eq n 4 (by decide)
  have e5 : ib n 5 = n % 18446744073709551616 / 2 ^ (8 * 5) % 256 := ib_eq n 5 (by decide)
  have e6 : ib n 6 = n % 18446744073709551616 / 2 ^ (8 * 6) % 256 := ib_eq n 6 (by decide)
  have e7 : ib n 7 = n % 18446744073709551616 / 2 ^ (8 * 7) % 256 := ib_eq n 7 (by decide)
  simp only [Nat.reduceMul, Int.reducePow] at e0 e1 e2 e3 e4 e5 e6 e7
  omega
theorem wrap_i64_emod (n : Int) : IntKind.i64.wrap (n % 18446744073709551616) = IntKind.i64.wrap n := by
  have h : n % 18446744073709551616 % 18446744073709551616 = n % 18446744073709551616 := Int.emod_emod_of_dvd n (Int.dvd_refl _)
  show (if _ then _ else _) = (if _ then _ else _)
  have e : ∀ x : Int, x % 2 ^ IntKind.i64.bits = x % 18446744073709551616 := fun x => rfl
  simp only [e, h]
def i64B (n : Int) : Bool := decide (-9223372036854775808 ≤ n) && decide (n < 9223372036854775808)
theorem wrap_i64_mod {n : Int} (h : i64B n = true) : IntKind.i64.wrap (n % 18446744073709551616) = n := by
  simp only [i64B, Bool.and_eq_true, decide_eq_true_eq] at h
  have e : IntKind.i64.wrap (n % 18446744073709551616) = IntKind.i64.wrap n := wrap_i64_emod n
  rw [e]; exact wrap_i64 h.1 h.2
theorem out_pu (l : List Int) (r : List PV) {n : Nat} (h : l.length = n) : outS0 n ⟨pu .u8 l ++ r, 0⟩ = pu .u8 l := by
  unfold outS0 okS0
  have : Nat.ble n (pu .u8 l ++ r).length = true := (Nat.ble_eq ▸ (by simp; omega) : Nat.ble n (pu .u8 l ++ r).length = true)
  rw [this]
  show List.take n (pu .u8 l ++ r) = _
  rw [List.take_append_of_le_length (by simp; omega), List.take_of_length_le (by simp; omega)]
theorem step_pu (l : List Int) (r : List PV) {n : Nat} (h : l.length = n) : stepS0 n ⟨pu .u8 l ++ r, 0⟩ = ⟨r, 0⟩ := by
  unfold stepS0 okS0
  have : Nat.ble n (pu .u8 l ++ r).length = true := (Nat.ble_eq ▸ (by simp; omega) : Nat.ble n (pu .u8 l ++ r).length = true)
  rw [this]
  show RS.mk (List.drop n (pu .u8 l ++ r)) 0 = _
  rw [List.drop_append_of_le_length (by simp; omega), List.drop_of_length_le (by simp; omega), List.nil_append]
theorem num_pu (l : List Int) (r : List PV) {n : Nat} (h : l.length = n) : numS0 n ⟨pu .u8 l ++ r, 0⟩ = IntKind.i64.wrap (numL l) := by
  unfold numS0; rw [out_pu l r h, ints_pu]
theorem num_int {n : Int} (h : i64B n = true) (r : List PV) : numS 8 ⟨pu .u8 (intB n) ++ r, 0⟩ = n := by
  rw [numS_eq, num_pu _ _ (intB_length n), numL_intB, wrap_i64_mod h]
theorem step_int (n : Int) (r : List PV) : stepS 8 ⟨pu .u8 (intB n) ++ r, 0⟩ = ⟨r, 0⟩ := by
  rw [stepS_eq, step_pu _ _ (intB_length n)]
theorem num_byte (n : Int) (r : List PV) : numS 1 ⟨pu .u8 [IntKind.u8.wrap n] ++ r, 0⟩ = IntKind.u8.wrap n := by
  rw [numS_eq, num_pu [IntKind.u8.wrap n] r (n := 1) rfl]
  have := wrap_by n
  simp only [numL]
  rw [wrap_i64 (by omega) (by omega)]; omega
theorem step_byte (n : Int) (r : List PV) : stepS 1 ⟨pu .u8 [IntKind.u8.wrap n] ++ r, 0⟩ = ⟨r, 0⟩ := by
  rw [stepS_eq, step_pu [IntKind.u8.wrap n] r (n := 1) rfl]
noncomputable def numsB (l : List Int) : List Int := l.flatMap intB
theorem numsB_length (l : List Int) : (numsB l).length = 8 * l.length := by
  induction l with
  | nil => rfl
  | cons x l ih => simp only [numsB, List.flatMap_cons, List.length_append, intB_length, List.length_cons] at ih ⊢; omega
theorem numsB_by (l : List Int) : ∀ x ∈ numsB l, 0 ≤ x ∧ x < 256 := by
  intro x hx
  obtain ⟨n, _, h⟩ := List.mem_flatMap.1 hx
  exact intB_by n x h
theorem fS_nums (kd : Int) (ns : List Int) (r : List PV) : ∀ n, n ≤ ns.length →
    fS (n + 1) ⟨pu .u8 [IntKind.u8.wrap kd] ++ (pu .u8 (numsB ns) ++ r), 0⟩ = ⟨pu .u8 (numsB (ns.drop n)) ++ r, 0⟩
  | 0, _ => by rw [fS, step_byte]; rfl
  | n + 1, h => by
      rw [fS, fS_nums kd ns r n (by omega)]
      have hd : ns.drop n = ns.getD n 0 :: ns.drop (n + 1) := by
        rw [List.drop_eq_getElem_cons (by omega)]; simp [List.getD_eq_getElem?_getD, show n < ns.length by omega]
      rw [hd]
      simp only [numsB, List.flatMap_cons, pu_append, List.append_assoc]
      rw [step_int]
theorem fld_nums (kd : Int) (ns : List Int) (r : List PV) (n : Nat) (h : n < ns.length) (hi : i64B (ns.getD n 0) = true) :
    fld (n + 1) ⟨pu .u8 [IntKind.u8.wrap kd] ++ (pu .u8 (numsB ns) ++ r), 0⟩ = ns.getD n 0 := by
  rw [fld_eq, fld0, fS_nums kd ns r n (by omega)]
  have hd : ns.drop n = ns.getD n 0 :: ns.drop (n + 1) := by
    rw [List.drop_eq_getElem_cons (by omega)]; simp [List.getD_eq_getElem?_getD, h]
  rw [hd]
  simp only [numsB, List.flatMap_cons, pu_append, List.append_assoc]
  exact num_int hi _
theorem fld_kind (kd : Int) (r : List PV) : fld 0 ⟨pu .u8 [IntKind.u8.wrap kd] ++ r, 0⟩ = IntKind.u8.wrap kd := by
  rw [fld_eq, fld0, num_byte]
noncomputable def textsB (l : List ByteArray) : List Int := l.flatMap textB
theorem textsB_by (l : List ByteArray) : ∀ x ∈ textsB l, 0 ≤ x ∧ x < 256 := by
  intro x hx
  obtain ⟨n, _, h⟩ := List.mem_flatMap.1 hx
  exact textB_by n x h
theorem txt_val {t : ByteArray} (h : t.size ≤ 65535) (r : List PV) : txtV ⟨pu .u8 (textB t) ++ r, 0⟩ = t ∧ txtS ⟨pu .u8 (textB t) ++ r, 0⟩ = ⟨r, 0⟩ := by
  have hn : ∀ r, numS0 2 ⟨pu .u8 [IntKind.u8.wrap (zi t.size), IntKind.u8.wrap (shrI .i64 (zi t.size) 8)] ++ r, 0⟩ = (t.size : Int) := by
    intro r
    rw [num_pu [IntKind.u8.wrap (zi t.size), IntKind.u8.wrap (shrI .i64 (zi t.size) 8)] r (n := 2) rfl]
    simp only [numL, shrI, wrap_u8_eq, zi]
    have : min (8 : Int).toNat IntKind.i64.bits = 8 := by decide
    rw [this, Int.fdiv_eq_ediv_of_nonneg _ (by decide), wrap_i64 (by omega) (by omega)]
    omega
  have hs : ∀ r, stepS0 2 ⟨pu .u8 [IntKind.u8.wrap (zi t.size), IntKind.u8.wrap (shrI .i64 (zi t.size) 8)] ++ r, 0⟩ = ⟨r, 0⟩ := fun r => step_pu _ _ rfl
  have he : pu .u8 (textB t) ++ r = pu .u8 [IntKind.u8.wrap (zi t.size), IntKind.u8.wrap (shrI .i64 (zi t.size) 8)] ++ (pu .u8 (bsI t) ++ r) := by
    rw [textB_eq, textB0, pu_append, List.append_assoc]
  rw [txtV_eq, txtS_eq, he]
  unfold txtV0 txtS0
  rw [hn, hs, Int.toNat_natCast, out_pu _ _ (bsI_length t), step_pu _ _ (bsI_length t)]
  refine ⟨?_, rfl⟩
  rw [← ofBytes_pu]
  apply ByteArray.ext
  apply Array.ext'
  show toBytes (ofBytes t) = t.data.toList
  simp only [ofBytes]
  generalize t.data.toList = l
  induction l with
  | nil => rfl
  | cons x l ih =>
    simp only [List.map_cons, toBytes, ih, PV.int]
    congr 1
    simp
theorem tx_all : ∀ (l : List ByteArray) (r : List PV), (∀ t ∈ l, t.size ≤ 65535) → txL l.length ⟨pu .u8 (textsB l) ++ r, 0⟩ = l.map bodyP ∧ txR l.length ⟨pu .u8 (textsB l) ++ r, 0⟩ = ⟨r, 0⟩
  | [], r, _ => ⟨rfl, rfl⟩
  | t :: l, r, h => by
      have h1 := fun r => txt_val (h t List.mem_cons_self) r
      have h2 := tx_all l r fun x hx => h x (List.mem_cons_of_mem _ hx)
      simp only [textsB, List.flatMap_cons, pu_append, List.append_assoc] at h2 ⊢
      simp only [List.length_cons, txL, txR, (h1 _).1, (h1 _).2, h2.1, h2.2, List.map_cons, and_self]
theorem run_pu : ∀ (l : List Int) (r : List PV), (∀ x ∈ l, 0 ≤ x ∧ x < 256) → runB l.length ⟨pu .u8 l ++ r, 0⟩ = ⟨r, 0⟩ ∧ runH l.length ⟨pu .u8 l ++ r, 0⟩ = l
  | [], r, _ => ⟨rfl, rfl⟩
  | x :: l, r, h => by
      have h2 := run_pu l r fun y hy => h y (List.mem_cons_of_mem _ hy)
      have hx := h x List.mem_cons_self
      have e1 : stepS0 1 ⟨pu .u8 (x :: l) ++ r, 0⟩ = ⟨pu .u8 l ++ r, 0⟩ := by
        rw [show pu .u8 (x :: l) ++ r = pu .u8 [x] ++ (pu .u8 l ++ r) from rfl, step_pu [x] _ (n := 1) rfl]
      have e2 : numS0 1 ⟨pu .u8 (x :: l) ++ r, 0⟩ = x := by
        rw [show pu .u8 (x :: l) ++ r = pu .u8 [x] ++ (pu .u8 l ++ r) from rfl, num_pu [x] _ (n := 1) rfl]
        simp only [numL]
        rw [wrap_i64 (by omega) (by omega)]; omega
      simp only [List.length_cons, runB, runH, e1, e2, h2.1, h2.2, true_and]
      rw [wrap_u8_eq]; congr 1; omega
noncomputable def msgB (kd : Int) (ns : List Int) (ts : List ByteArray) : List Int := [IntKind.u8.wrap kd] ++ (numsB ns ++ ([IntKind.u8.wrap (zi ts.length)] ++ textsB ts))
theorem msgB_by (kd : Int) (ns : List Int) (ts : List ByteArray) : ∀ x ∈ msgB kd ns ts, 0 ≤ x ∧ x < 256 := by
  intro x hx
  simp only [msgB, List.mem_append, List.mem_singleton] at hx
  rcases hx with rfl | h | rfl | h
  · exact wrap_by _
  · exact numsB_by ns x h
  · exact wrap_by _
  · exact textsB_by ts x h
structure MsgOk (ns : List Int) (ts : List ByteArray) (h : List Int) : Prop where
  len : ns.length = 12
  num : ∀ n, n < 12 → i64B (ns.getD n 0) = true
  cnt : ts.length ≤ 4
  txt : ∀ t ∈ ts, t.size ≤ 65535
  sum : h.length = 32
  sumB : ∀ x ∈ h, 0 ≤ x ∧ x < 256
theorem msg_read {kd : Int} {ns : List Int} {ts : List ByteArray} {h : List Int} (o : MsgOk ns ts h) :
    let s : RS := ⟨pu .u8 (msgB kd ns ts) ++ pu .u8 h, 0⟩
    fld 0 s = IntKind.u8.wrap kd ∧ (∀ n, n < 12 → fld (n + 1) s = ns.getD n 0) ∧ bodL s = ts.map bodyP ∧ msgE s = ⟨[], 0⟩ ∧ msgH s = h := by
  intro s
  have hs : s = ⟨pu .u8 [IntKind.u8.wrap kd] ++ (pu .u8 (numsB ns) ++ (pu .u8 [IntKind.u8.wrap (zi ts.length)] ++ (pu .u8 (textsB ts) ++ pu .u8 h))), 0⟩ := by
    show RS.mk _ _ = _
    simp only [msgB, pu_append, List.append_assoc]
  have hf : fS 13 s = ⟨pu .u8 [IntKind.u8.wrap (zi ts.length)] ++ (pu .u8 (textsB ts) ++ pu .u8 h), 0⟩ := by
    rw [hs, fS_nums kd ns _ 12 (by rw [o.len]; exact Nat.le_refl _), List.drop_of_length_le (by rw [o.len]; exact Nat.le_refl _)]; rfl
  have hc : cntS s = (ts.length : Int) := by
    rw [cntS, hf, num_byte, wrap_u8_eq]
    have := o.cnt
    simp only [zi]; omega
  have h4 : decide (cntS s > 4) = false := by
    rw [hc]; have := o.cnt; simp; omega
  have hN : msgN s = ts.length := by unfold msgN; rw [h4, hc]; simp
  have hS : msgS s = ⟨pu .u8 (textsB ts) ++ pu .u8 h, 0⟩ := by unfold msgS; rw [h4, cond_false, hf, step_byte]
  have ht := tx_all ts (pu .u8 h) o.txt
  have hr := run_pu h [] o.sumB
  rw [o.sum, List.append_nil] at hr
  refine ⟨?_, ?_, ?_, ?_, ?_⟩
  · rw [hs]; exact fld_kind kd _
  · intro n hn; rw [hs]; exact fld_nums kd ns _ n (by rw [o.len]; exact hn) (o.num n hn)
  · rw [bodL_eq, hN, hS, ht.1]
  · rw [msgE_eq, hN, hS, ht.2, hashS_eq, hr.1]
  · rw [msgH_eq, hN, hS, ht.2, hashV_eq, hr.2]
theorem parE_msg {l : List PV} {kd : Int} {ns : List Int} {ts : List ByteArray} {h : List Int} (o : MsgOk ns ts h) (hl : (msgB kd ns ts).length ≤ 8160) :
    parE0 ⟨l, pu .u8 (msgB kd ns ts) ++ pu .u8 h⟩ =
      bif chk ⟨IntKind.u8.wrap kd, ns.getD 0 0, ns.getD 1 0, ns.getD 2 0, ns.getD 3 0, ns.getD 4 0, ns.getD 5 0, ns.getD 6 0, ns.getD 7 0, ns.getD 8 0, ns.getD 9 0, ns.getD 10 0, ns.getD 11 0⟩ == 0 then
        (bif macP (ints (keyF ⟨l, ns.getD 0 0⟩)) (msgB kd ns ts) == h then 0 else 14)
      else chk ⟨IntKind.u8.wrap kd, ns.getD 0 0, ns.getD 1 0, ns.getD 2 0, ns.getD 3 0, ns.getD 4 0, ns.getD 5 0, ns.getD 6 0, ns.getD 7 0, ns.getD 8 0, ns.getD 9 0, ns.getD 10 0, ns.getD 11 0⟩ := by
  obtain ⟨m0, m1, m2, m3, m4⟩ := msg_read (kd := kd) o
  have hc : parC ⟨pu .u8 (msgB kd ns ts) ++ pu .u8 h, 0⟩ = chk ⟨IntKind.u8.wrap kd, ns.getD 0 0, ns.getD 1 0, ns.getD 2 0, ns.getD 3 0, ns.getD 4 0, ns.getD 5 0, ns.getD 6 0, ns.getD 7 0, ns.getD 8 0, ns.getD 9 0, ns.getD 10 0, ns.getD 11 0⟩ := by
    unfold parC
    rw [m0, m1 0 (by decide), m1 1 (by decide), m1 2 (by decide), m1 3 (by decide), m1 4 (by decide), m1 5 (by decide), m1 6 (by decide), m1 7 (by decide), m1 8 (by decide), m1 9 (by decide), m1 10 (by decide), m1 11 (by decide)]
  have hL : (pu .u8 (msgB kd ns ts) ++ pu .u8 h).length = (msgB kd ns ts).length + 32 := by simp [o.sum]
  have hm : parM ⟨l, pu .u8 (msgB kd ns ts) ++ pu .u8 h⟩ = macP (ints (keyF ⟨l, ns.getD 0 0⟩)) (msgB kd ns ts) := by
    unfold parM
    simp only [hL, Nat.add_sub_cancel]
    rw [m1 0 (by decide), List.take_append_of_le_length (by simp), List.take_of_length_le (by simp), ints_pu]
  unfold parE0
  simp only [hL, hc, hm, m3, m4]
  rw [show decide ((msgB kd ns ts).length + 32 > 8192) = false by simp; omega]
  rfl
end Go.Proofs.Ytcklhipdldpkhaa.Rx

namespace Go.Proofs.Ytcklhipdldpkhaa.Rx
open Go
set_option linter.unusedVariables false
set_option linter.unusedSimpArgs false
set_option maxRecDepth 100000
theorem tyL2 {τ : Tab} {m : Nat} {a b : TypeId} {pvs : List PV} (h : TyL τ m [a, b] pvs) : ∃ p q, pvs = [p, q] ∧ Ty τ m a p ∧ Ty τ m b q := by
  match pvs, h with
  | [p, q], h => exact ⟨p, q, rfl, h.1, h.2.1⟩
theorem tyL3 {τ : Tab} {m : Nat} {a b c : TypeId} {pvs : List PV} (h : TyL τ m [a, b, c] pvs) : ∃ p q r, pvs = [p, q, r] ∧ Ty τ m a p ∧ Ty τ m b q ∧ Ty τ m c r := by
  match pvs, h with
  | [p, q, r], h => exact ⟨p, q, r, rfl, h.1, h.2.1, h.2.2.1⟩
theorem ty_rows {n : Nat} (l : List PV) (h : ∀ q ∈ l, Ty tau (n + 2) 29 q) : l.all (PV.isRo 5) = true ∧ allInt .u8 (flat l) = true := by
  have u1 : tau.und 29 = some (.slice 5) := by kernel_rfl
  have u2 : tau.und 5 = some (.int .u8) := by kernel_rfl
  induction l with
  | nil => exact ⟨rfl, rfl⟩
  | cons p ps ih =>
    obtain ⟨i1, i2⟩ := ih fun q hq => h q (List.mem_cons_of_mem _ hq)
    obtain ⟨nl, els, rfl, _, _, t⟩ := ty_slice u1 (h p List.mem_cons_self)
    refine ⟨by simp [PV.isRo, i1], ?_⟩
    rw [flat_cons, allInt_append, i2]
    simp only [PV.els, Bool.and_true]
    exact ty_ints u2 els t
theorem flat_one (e : TypeId) (a b : Bool) (l : List PV) : flat [.ro e a b l] = l := by simp [PV.els]
end Go.Proofs.Ytcklhipdldpkhaa.Rx

-- FN law9.Keys | law16.Good | law16.Few
namespace Go.Proofs.Ytcklhipdldpkhaa.Rx
open Go
set_option linter.unusedVariables false
set_option linter.unusedSimpArgs false
set_option maxRecDepth 100000
set_option maxHeartbeats 1000000
noncomputable def kb : Nat → List PV → List PV := hid fun i b => pu .u8 [107, 48 + i] ++ b.take 60
theorem kb_eq (i : Nat) (b : List PV) : kb i b = pu .u8 [107, 48 + i] ++ b.take 60 := by rw [kb, hid_eq]
theorem kb_ok (i : Nat) {b : List PV} (h : allInt .u8 b = true) : kOk (kb i b) = true := by
  rw [kb_eq]; unfold kOk
  have h2 : allInt .u8 (b.take 60) = true := by
    rw [pu_ints h, pu_take]; simp
  rw [allInt_append, h2, allInt_pu]
  simp; omega
noncomputable def run21' : List PV → List Ent → (Res → Option Res) → Option Res
  | [.ro 5 z f b], [], k => k ⟨.st 31 [.ro 5 false false (kb 0 b), .ro 5 false false (kb 1 b), .ro 5 false false (kb 2 b)], [], []⟩
  | _, _, _ => none
noncomputable def s21' : Sig := { own := [], run := run21' }
theorem min60 (n m : Nat) : (minI (zi n) m).toNat = min n m := by unfold minI; simp only [zi]; split <;> omega
theorem ok21' : CallOk tau Try.prog 21 s21' := ok21.of fun xs es k res hr => by
  change run21' xs es k = some res at hr
  unfold run21' at hr
  split at hr
  · rename_i z f b
    show g21 0 z f b k = some res
    have hm : (minI (zi b.length) 60).toNat = min b.length 60 := min60 b.length 60
    have ht : List.take (min b.length 60) b = b.take 60 := by rw [Nat.min_comm, List.take_eq_take_iff]; omega
    have hl : (b.take 60).length ≤ 60 := by simp; omega
    have e : ∀ x y : Int, List.take (2 + (b.take 60).length) (.sc (.int .u8 x) :: .sc (.int .u8 y) :: id (b.take 60)) = .sc (.int .u8 x) :: .sc (.int .u8 y) :: b.take 60 := fun x y => List.take_of_length_le (by simp; omega)
    have hk : ∀ i, kb i b = .sc (.int .u8 107) :: .sc (.int .u8 (48 + i)) :: b.take 60 := fun i => by rw [kb_eq]; simp
    unfold g21
    simp only [hm, ht, e]
    have hr4 : roomy (2 + (b.take 60).length) 1 = true := by simp only [roomy, Nat.mul_one, decide_eq_true_eq]; omega
    rw [bif_t (by simp; unfold minI; simp only [zi]; split <;> omega), hr4]
    simp only [hk] at hr
    exact hr
  · cases hr
def goodF0 : Nat → C13 → Int
  | 0, c => 1 + c.kd % 5
  | 1, c => c.fr % 3
  | 2, c => (c.fr % 3 + 1 + c.to % 2) % 3
  | 3, c => c.wh % 3
  | 4, c => c.wn % 100
  | 5, c => c.cd % 3
  | 6, c => c.cu % 8
  | 7, c => c.ve % 1073741824
  | 8, c => c.co % 1073741824
  | 9, c => c.ad % 3
  | 10, c => c.au % 8
  | 11, c => c.su % 1073741824
  | _, c => c.er % 256
noncomputable def goodF : Nat → C13 → Int := hid goodF0
theorem goodF_eq (i : Nat) (c : C13) : goodF i c = goodF0 i c := by rw [goodF, hid_eq]
noncomputable abbrev gcOf (c : C13) : C13 := ⟨goodF 0 c, goodF 1 c, goodF 2 c, goodF 3 c, goodF 4 c, goodF 5 c, goodF 6 c, goodF 7 c, goodF 8 c, goodF 9 c, goodF 10 c, goodF 11 c, goodF 12 c⟩
noncomputable def gB : List PV → List PV := hid fun l => l.take 4
theorem gB_eq (l : List PV) : gB l = l.take 4 := by rw [gB, hid_eq]
noncomputable def run33' : List PV → List Ent → (Res → Option Res) → Option Res
  | [.st 54 [.sc (.int .i64 kd), .sc (.int .i64 fr), .sc (.int .i64 to), .st 34 [.sc (.int .i64 wh), .sc (.int .i64 wn)], .st 45 [.sc (.int .i64 cd), .sc (.int .i64 cu)], .sc (.int .i64 ve), .sc (.int .i64 co), .st 45 [.sc (.int .i64 ad), .sc (.int .i64 au)], .sc (.int .i64 su), .sc (.int .i64 er), .ro 29 z f l]], [], k =>
    k ⟨.st 54 [.sc (.int .i64 (goodF 0 ⟨kd, fr, to, wh, wn, cd, cu, ve, co, ad, au, su, er⟩)), .sc (.int .i64 (goodF 1 ⟨kd, fr, to, wh, wn, cd, cu, ve, co, ad, au, su, er⟩)), .sc (.int .i64 (goodF 2 ⟨kd, fr, to, wh, wn, cd, cu, ve, co, ad, au, su, er⟩)), .st 34 [.sc (.int .i64 (goodF 3 ⟨kd, fr, to, wh, wn, cd, cu, ve, co, ad, au, su, er⟩)), .sc (.int .i64 (goodF 4 ⟨kd, fr, to, wh, wn, cd, cu, ve, co, ad, au, su, er⟩))], .st 45 [.sc (.int .i64 (goodF 5 ⟨kd, fr, to, wh, wn, cd, cu, ve, co, ad, au, su, er⟩)), .sc (.int .i64 (goodF 6 ⟨kd, fr, to, wh, wn, cd, cu, ve, co, ad, au, su, er⟩))], .sc (.int .i64 (goodF 7 ⟨kd, fr, to, wh, wn, cd, cu, ve, co, ad, au, su, er⟩)), .sc (.int .i64 (goodF 8 ⟨kd, fr, to, wh, wn, cd, cu, ve, co, ad, au, su, er⟩)), .st 45 [.sc (.int .i64 (goodF 9 ⟨kd, fr, to, wh, wn, cd, cu, ve, co, ad, au, su, er⟩)), .sc (.int .i64 (goodF 10 ⟨kd, fr, to, wh, wn, cd, cu, ve, co, ad, au, su, er⟩))], .sc (.int .i64 (goodF 11 ⟨kd, fr, to, wh, wn, cd, cu, ve, co, ad, au, su, er⟩)), .sc (.int .i64 (goodF 12 ⟨kd, fr, to, wh, wn, cd, cu, ve, co, ad, au, su, er⟩)), .ro 29 z z (gB l)], [], []⟩
  | _, _, _ => none
noncomputable def s33' : Sig := { own := [], run := run33' }
theorem ok33' : CallOk tau Try.prog 33 s33' := ok33.of fun xs es k res hr => by
  change run33' xs es k = some res at hr
  unfold run33' at hr
  split at hr
  · rename_i kd fr to wh wn cd cu ve co ad au su er z f l
    show g33 0 kd fr to wh wn cd cu ve co ad au su er z f l k = some res
    have hm : (minI (zi l.length) 4).toNat = min l.length 4 := min60 l.length 4
    have ht : List.take (min l.length 4) l = l.take 4 := by rw [Nat.min_comm, List.take_eq_take_iff]; omega
    have hk : IntKind.i64.wrap (1 + kd % 5) = 1 + kd % 5 := wrap_i64 (by omega) (by omega)
    have hw : (IntKind.i64.wrap (IntKind.i64.wrap (fr % 3 + 1) + to % 2)).tmod 3 = (fr % 3 + 1 + to % 2) % 3 := by
      rw [wrap_i64 (x := fr % 3 + 1) (by omega) (by omega), wrap_i64 (by omega) (by omega), Int.tmod_eq_emod_of_nonneg (by omega)]
    simp only [goodF_eq, gB_eq, goodF0] at hr
    unfold g33
    have hW : ∀ n : Int, 0 < n → n < 1000000000000 → okW n = true := fun n h1 h2 => by rw [okW_eq, Bool.and_eq_true, decide_eq_true_eq, decide_eq_true_eq]; exact ⟨h1, h2⟩
    simp only [hm, ht, hk, hw, hW 5 (by decide) (by decide), hW 3 (by decide) (by decide), hW 100 (by decide) (by decide), hW 2 (by decide) (by decide), hW 8 (by decide) (by decide), hW 1073741824 (by decide) (by decide), hW 256 (by decide) (by decide), cond_true, Bool.and_false, Bool.or_false]
    rw [bif_t (by simp; unfold minI; simp only [zi]; split <;> omega)]
    exact hr
  · cases hr
noncomputable def fewB : List PV → Bool := hid fun l => l.all (fun p => decide (p.els.length ≤ 200)) && decide (l.length ≤ 6)
theorem fewB_eq (l : List PV) : fewB l = (l.all (fun p => decide (p.els.length ≤ 200)) && decide (l.length ≤ 6)) := by rw [fewB, hid_eq]
noncomputable def run32' : List PV → List Ent → (Res → Option Res) → Option Res
  | [.st 54 [.sc (.int .i64 kd), .sc (.int .i64 fr), .sc (.int .i64 to), .st 34 [.sc (.int .i64 wh), .sc (.int .i64 wn)], .st 45 [.sc (.int .i64 cd), .sc (.int .i64 cu)], .sc (.int .i64 ve), .sc (.int .i64 co), .st 45 [.sc (.int .i64 ad), .sc (.int .i64 au)], .sc (.int .i64 su), .sc (.int .i64 er), .ro 29 z f l]], [], k =>
    bif l.all (PV.isRo 5) && Nat.ble l.length 9223372036854775807 then k ⟨.sc (.bool (fewB l)), [], []⟩ else none
  | _, _, _ => none
noncomputable def s32' : Sig := { own := [], run := run32' }
theorem l32_0 (l : List PV) (h1 : l.all (PV.isRo 5) = true) (h2 : l.length ≤ 9223372036854775807) (f : Nat) (k0 : Bool → Int → Int → Int → Int → Int → Int → Int → Int → Int → Int → Int → Int → Int → Bool → Bool → List PV → Option Res) (k1 : Int → Int → Int → Int → Int → Int → Int → Int → Int → Int → Int → Int → Int → Bool → Bool → List PV → Option Res) (R : Option Res)
    (kd fr to wh wn cd cu ve co ad au su er : Int) (z fl : Bool) (hk0 : ∀ p ∈ l, p.els.length > 200 → k0 false kd fr to wh wn cd cu ve co ad au su er z fl l = R) (hk1 : (∀ p ∈ l, p.els.length ≤ 200) → k1 kd fr to wh wn cd cu ve co ad au su er z fl l = R) :
    ∀ (d i n : Nat), i + d = l.length → d < n → (∀ p ∈ l.take i, p.els.length ≤ 200) → lp32_0 f k0 k1 n (i : Int) kd fr to wh wn cd cu ve co ad au su er z fl l = R
  | 0, i, n + 1, hi, hn, hp => by
      obtain rfl : i = l.length := by omega
      rw [List.take_length] at hp
      simp only [lp32_0, lpS32_0]
      exact (bif_f (by simp [zi])).trans (hk1 hp)
  | d + 1, i, n + 1, hi, hn, hp => by
      have g1 : ((i : Int)).toNat = i := by omega
      have w1 : IntKind.i64.wrap ((i : Int) + 1) = ((i + 1 : Nat) : Int) := by rw [wrap_i64 (by omega) (by omega)]; omega
      simp only [lp32_0, lpS32_0, g1, w1]
      refine (bif_t (by simp [zi]; omega)).trans ((bif_t (by rw [isRo_getD h1 (by omega)]; simp [zi]; omega)).trans ?_)
      have hmem : l.getD i .top ∈ l := by rw [List.getD_eq_getElem?_getD, List.getElem?_eq_getElem (by omega)]; exact List.getElem_mem (by omega)
      by_cases hc : (l.getD i .top).els.length > 200
      · exact (bif_t (by simp only [zi, decide_eq_true_eq]; omega)).trans (hk0 _ hmem hc)
      · refine (bif_f (by simp only [zi, decide_eq_false_iff_not]; omega)).trans ?_
        refine l32_0 l h1 h2 f k0 k1 R kd fr to wh wn cd cu ve co ad au su er z fl hk0 hk1 d (i + 1) n (by omega) (by omega) fun p hp2 => ?_
        rw [List.take_add_one] at hp2
        rcases List.mem_append.1 hp2 with hp2 | hp2
        · exact hp p hp2
        · rw [List.getElem?_eq_getElem (by omega)] at hp2
          simp only [Option.toList_some, List.mem_singleton] at hp2
          rw [hp2]
          rw [List.getD_eq_getElem?_getD, List.getElem?_eq_getElem (by omega)] at hc
          simpa using hc
theorem g32_eq (kd fr to wh wn cd cu ve co ad au su er : Int) (z f : Bool) (l : List PV) (h1 : l.all (PV.isRo 5) = true) (h2 : l.length ≤ 9223372036854775807) (k : Res → Option Res) : g32 (l.length + 2) kd fr to wh wn cd cu ve co ad au su er z f l k = k ⟨.sc (.bool (fewB l)), [], []⟩ := by
  unfold g32
  refine l32_0 l h1 h2 (l.length + 2) _ _ _ kd fr to wh wn cd cu ve co ad au su er z f (fun p hp hc => ?_) (fun hp => ?_) l.length 0 (l.length + 2) (by omega) (by omega) (by simp)
  · have : fewB l = false := by
      rw [fewB_eq]
      have : l.all (fun p => decide (p.els.length ≤ 200)) = false := List.all_eq_false.2 ⟨p, hp, by simp; omega⟩
      rw [this]; rfl
    rw [this]
  · have : fewB l = decide (zi l.length ≤ 6) := by
      rw [fewB_eq, show l.all (fun p => decide (p.els.length ≤ 200)) = true from List.all_eq_true.2 fun p hq => by simpa using hp p hq, Bool.true_and]
      apply decide_eq_decide.2; simp only [zi]; omega
    rw [this]
theorem ok32' : CallOk tau Try.prog 32 s32' := CallOk.mk' fun xs es k res hl hr => by
  change run32' xs es k = some res at hr
  unfold run32' at hr
  split at hr
  · rename_i kd fr to wh wn cd cu ve co ad au su er z f l
    obtain ⟨hc, hr⟩ := of_bif hr
    simp only [Bool.and_eq_true, Nat.ble_eq] at hc
    have hg := (g32_eq kd fr to wh wn cd cu ve co ad au su er z f l hc.1 hc.2 k).trans hr
    exact fn_at tabOk F32_ok mixed fo32 bo32 (an32 (r32_0 (l.length + 2))) [.ro] 0 0 (ia32 (l.length + 2)) hl rfl ((e32 (l.length + 2) kd fr to wh wn cd cu ve co ad au su er z f l k).trans hg)
  · cases hr
end Go.Proofs.Ytcklhipdldpkhaa.Rx

namespace Go.Proofs.Ytcklhipdldpkhaa.Rx
open Go
set_option linter.unusedVariables false
set_option maxRecDepth 100000
set_option maxHeartbeats 0
noncomputable def F31 : Fns := addF 37 s37' (addF 21 s21' (F0))
theorem F31_ok : FnsOk tau Try.prog F31 := ((F0_ok).add ok21' en21).add ok37' en37
def an31 : An := (.seq .leaf (.seq .leaf (.seq .leaf .leaf)))
noncomputable def g31 (f : Nat) (k : Res → Option Res) : Option Res := bif kOk (kb 0 []) && (kOk (kb 1 []) && kOk (kb 2 [])) then k (Res.mk (.sc (.bool (parE (PA.mk [.ro 5 false false (kb 0 []), .ro 5 false false (kb 1 []), .ro 5 false false (kb 2 [])] []) == 8))) [] []) else none
theorem e31 (f : Nat) (k : Res → Option Res) : evFn tau F31 Try.f31 (Try.f31.body.get!) an31 [.ro] 0 [] [] k = g31 f k := by kernel_rfl
theorem it31 (f : Nat) : items (Try.f31.body.get!) an31 = [] := by kernel_rfl
theorem ia31 (f : Nat) : ∀ q ∈ items (Try.f31.body.get!) an31, q.Ok tau Try.prog 0 := by
  rw [it31 f]; intro q hq; cases hq
theorem fo31 : Try.prog.funcs[31]? = some Try.f31 := by kernel_rfl
theorem bo31 : Try.f31.body = some (Try.f31.body.get!) := by kernel_rfl
theorem en31 : Enters Try.prog 31 := enters_of fo31 (by kernel_rfl) bo31
noncomputable def run31 : List PV → List Ent → (Res → Option Res) → Option Res
  | [], [], k => g31 0  k
  | _, _, _ => none
noncomputable def s31 : Sig := { own := [], run := run31 }
theorem ok31 : CallOk tau Try.prog 31 s31 := fn_ok tabOk F31_ok mixed fo31 bo31 an31 [.ro] 0 [] run31 (ia31 0) fun xs es k res hr => by
  unfold run31 at hr
  split at hr
  · exact ⟨rfl, 0, (e31 0  _).trans hr⟩
  · cases hr
end Go.Proofs.Ytcklhipdldpkhaa.Rx

-- FN law16.known
namespace Go.Proofs.Ytcklhipdldpkhaa.Rx
open Go
set_option linter.unusedVariables false
set_option maxRecDepth 100000
theorem runB_id : ∀ (n : Nat) {s : RS}, s.e ≠ 0 → runB n s = s
  | 0, _, _ => rfl
  | n + 1, s, h => by show runB n (stepS0 1 s) = s; rw [step_err h, runB_id n h]
theorem parE_nil (l : List PV) : parE ⟨l, []⟩ = 8 := by
  have h1 : stepS 1 ⟨[], 0⟩ = ⟨[], 8⟩ := by rw [stepS_eq]; rfl
  have he : (RS.mk [] 8).e ≠ 0 := by decide
  have h8 : ∀ n, stepS n ⟨[], 8⟩ = ⟨[], 8⟩ := fun n => by rw [stepS_eq, step_err he]
  have hf : ∀ n, fS (n + 1) ⟨[], 0⟩ = ⟨[], 8⟩ := by
    intro n
    induction n with
    | zero => rw [fS, h1]
    | succ n ih => rw [fS, ih, h8]
  have hc : cntS ⟨[], 0⟩ = 0 := by rw [cntS, hf 12, numS_eq]; rfl
  have hN : msgN ⟨[], 0⟩ = 0 := by unfold msgN; rw [hc]; rfl
  have hS : msgS ⟨[], 0⟩ = ⟨[], 8⟩ := by unfold msgS; rw [hc, hf 12, h8]; rfl
  have hE : msgE ⟨[], 0⟩ = ⟨[], 8⟩ := by rw [msgE_eq, hN, hS, hashS_eq]; exact runB_id 32 he
  rw [parE_eq]; unfold parE0; rw [hE]; rfl
noncomputable def run31' : List PV → List Ent → (Res → Option Res) → Option Res
  | [], [], k => k ⟨.sc (.bool true), [], []⟩
  | _, _, _ => none
noncomputable def s31' : Sig := { own := [], run := run31' }
theorem ok31' : CallOk tau Try.prog 31 s31' := ok31.of fun xs es k res hr => by
  change run31' xs es k = some res at hr
  unfold run31' at hr
  split at hr
  · show g31 0 _ = some res
    unfold g31
    have hk : ∀ i, kOk (kb i []) = true := fun i => kb_ok i rfl
    rw [bif_t (by rw [hk, hk, hk]; rfl), parE_nil]
    exact hr
  · cases hr
end Go.Proofs.Ytcklhipdldpkhaa.Rx

namespace Go.Proofs.Ytcklhipdldpkhaa.Rx
open Go
set_option linter.unusedVariables false
set_option maxRecDepth 100000
set_option maxHeartbeats 0
noncomputable def F72 : Fns := F0
theorem F72_ok : FnsOk tau Try.prog F72 := F0_ok
def an72 : An := (.seq .leaf (.seq .leaf .leaf))
noncomputable def g72 (f : Nat) (k : Res → Option Res) : Option Res := k (Res.mk (.ar 118 [.sc (.int .u32 1116352408), .sc (.int .u32 1899447441), .sc (.int .u32 3049323471), .sc (.int .u32 3921009573), .sc (.int .u32 961987163), .sc (.int .u32 1508970993), .sc (.int .u32 2453635748), .sc (.int .u32 2870763221), .sc (.int .u32 3624381080), .sc (.int .u32 310598401), .sc (.int .u32 607225278), .sc (.int .u32 1426881987), .sc (.int .u32 1925078388), .sc (.int .u32 2162078206), .sc (.int .u32 2614888103), .sc (.int .u32 3248222580), .sc (.int .u32 3835390401), .sc (.int .u32 4022224774), .sc (.int .u32 264347078), .sc (.int .u32 604807628), .sc (.int .u32 770255983), .sc (.int .u32 1249150122), .sc (.int .u32 1555081692), .sc (.int .u32 1996064986), .sc (.int .u32 2554220882), .sc (.int .u32 2821834349), .sc (.int .u32 2952996808), .sc (.int .u32 3210313671), .sc (.int .u32 3336571891), .sc (.int .u32 3584528711), .sc (.int .u32 113926993), .sc (.int .u32 338241895), .sc (.int .u32 666307205), .sc (.int .u32 773529912), .sc (.int .u32 1294757372), .sc (.int .u32 1396182291), .sc (.int .u32 1695183700), .sc (.int .u32 1986661051), .sc (.int .u32 2177026350), .sc (.int .u32 2456956037), .sc (.int .u32 2730485921), .sc (.int .u32 2820302411), .sc (.int .u32 3259730800), .sc (.int .u32 3345764771), .sc (.int .u32 3516065817), .sc (.int .u32 3600352804), .sc (.int .u32 4094571909), .sc (.int .u32 275423344), .sc (.int .u32 430227734), .sc (.int .u32 506948616), .sc (.int .u32 659060556), .sc (.int .u32 883997877), .sc (.int .u32 958139571), .sc (.int .u32 1322822218), .sc (.int .u32 1537002063), .sc (.int .u32 1747873779), .sc (.int .u32 1955562222), .sc (.int .u32 2024104815), .sc (.int .u32 2227730452), .sc (.int .u32 2361852424), .sc (.int .u32 2428436474), .sc (.int .u32 2756734187), .sc (.int .u32 3204031479), .sc (.int .u32 3329325298)]) [] [])
theorem e72 (f : Nat) (k : Res → Option Res) : evFn tau F72 Try.f72 (Try.f72.body.get!) an72 [.ro] 0 [] [] k = g72 f k := by kernel_rfl
theorem it72 (f : Nat) : items (Try.f72.body.get!) an72 = [] := by kernel_rfl
theorem ia72 (f : Nat) : ∀ q ∈ items (Try.f72.body.get!) an72, q.Ok tau Try.prog 0 := by
  rw [it72 f]; intro q hq; cases hq
theorem fo72 : Try.prog.funcs[72]? = some Try.f72 := by kernel_rfl
theorem bo72 : Try.f72.body = some (Try.f72.body.get!) := by kernel_rfl
theorem en72 : Enters Try.prog 72 := enters_of fo72 (by kernel_rfl) bo72
noncomputable def run72 : List PV → List Ent → (Res → Option Res) → Option Res
  | [], [], k => g72 0  k
  | _, _, _ => none
noncomputable def s72 : Sig := { own := [], run := run72 }
theorem ok72 : CallOk tau Try.prog 72 s72 := fn_ok tabOk F72_ok mixed fo72 bo72 an72 [.ro] 0 [] run72 (ia72 0) fun xs es k res hr => by
  unfold run72 at hr
  split at hr
  · exact ⟨rfl, 0, (e72 0  _).trans hr⟩
  · cases hr
end Go.Proofs.Ytcklhipdldpkhaa.Rx

namespace Go.Proofs.Ytcklhipdldpkhaa.Rx
open Go
set_option linter.unusedVariables false
set_option maxRecDepth 100000
set_option maxHeartbeats 0
def N28 : Nat := 278
noncomputable def F28 : Fns := addF 72 s72 (addF 73 s73' F0)
theorem F28_ok : FnsOk tau Try.prog F28 := (F0_ok.add ok73' en73).add ok72 en72
noncomputable def c28_0 : Code := subC (Try.f28.body.get!) [1, 1, 1, 1, 1, 0, 0, 0]
def nm28_0 : Nm := [(0, .any), (2, .any), (3, .any), (4, .any), (5, .any)]
def nx28_0 : Nm := [(0, .any), (2, .any), (3, .any), (4, .any), (5, .any)]
def x28_0 : An := (.seq (.seq .leaf (.cond .leaf .leaf)) (.block none .leaf))
noncomputable def c28_1 : Code := subC (Try.f28.body.get!) [1, 1, 1, 1, 1, 1, 1, 0, 1, 0, 0]
def nm28_1 : Nm := [(2, .any), (3, .any), (4, .any), (5, .any), (6, .any), (7, .any)]
def nx28_1 : Nm := [(2, .any), (3, .any), (4, .any), (5, .any)]
def x28_1 : An := (.seq (.seq .leaf (.cond .leaf .leaf)) (.seq (.block none .leaf) .leaf))
noncomputable def c28_3 : Code := subC (Try.f28.body.get!) [1, 1, 1, 1, 1, 1, 1, 1, 1, 0, 1, 0, 0, 1, 0, 0, 0, 1, 0, 0]
def nm28_3 : Nm := [(2, .any), (3, .any), (4, .any), (5, .any), (8, .any), (9, .any), (10, .any)]
def nx28_3 : Nm := [(2, .any), (3, .any), (4, .any), (5, .any), (8, .any), (9, .any)]
def x28_3 : An := (.seq (.seq .leaf (.cond .leaf .leaf)) (.seq (.block none (.seq .leaf .leaf)) .leaf))
noncomputable def c28_4 : Code := subC (Try.f28.body.get!) [1, 1, 1, 1, 1, 1, 1, 1, 1, 0, 1, 0, 0, 1, 0, 0, 1, 0, 1, 0, 0]
def nm28_4 : Nm := [(2, .any), (3, .any), (4, .any), (5, .any), (8, .any), (9, .any), (12, .any)]
def nx28_4 : Nm := [(2, .any), (3, .any), (4, .any), (5, .any), (8, .any), (9, .any)]
def x28_4 : An := (.seq (.seq .leaf (.cond .leaf .leaf)) (.seq (.block none (.seq .leaf .leaf)) .leaf))
noncomputable def c28_5 : Code := subC (Try.f28.body.get!) [1, 1, 1, 1, 1, 1, 1, 1, 1, 0, 1, 0, 0, 1, 0, 0, 1, 1, 1, 0, 1, 0, 0]
def nm28_5 : Nm := [(2, .any), (3, .any), (4, .any), (5, .any), (8, .any), (9, .any), (15, .any), (16, .any)]
def nx28_5 : Nm := [(2, .any), (3, .any), (4, .any), (5, .any), (8, .any), (9, .any), (15, .any)]
def x28_5 : An := (.seq (.seq .leaf (.cond .leaf .leaf)) (.seq (.block none (.seq .leaf (.seq .leaf (.seq .leaf .leaf)))) .leaf))
noncomputable def c28_6 : Code := subC (Try.f28.body.get!) [1, 1, 1, 1, 1, 1, 1, 1, 1, 0, 1, 0, 0, 1, 0, 0, 1, 1, 1, 1, 1, 0, 0]
def nm28_6 : Nm := [(2, .any), (3, .any), (4, .any), (5, .any), (8, .any), (9, .any), (15, .any), (20, .any)]
def nx28_6 : Nm := [(2, .any), (3, .any), (4, .any), (5, .any), (8, .any), (9, .any)]
def x28_6 : An := (.seq (.seq .leaf (.cond .leaf .leaf)) (.seq (.block none .leaf) .leaf))
noncomputable def c28_2 : Code := subC (Try.f28.body.get!) [1, 1, 1, 1, 1, 1, 1, 1, 1, 0, 1, 0, 0]
def nm28_2 : Nm := [(2, .any), (3, .any), (4, .any), (5, .any), (8, .any), (9, .any)]
def nx28_2 : Nm := [(2, .any), (4, .any)]
def x28_2 (r3 : RunL) (r4 : RunL) (r5 : RunL) (r6 : RunL) : An := (.seq (.seq .leaf (.cond .leaf .leaf)) (.seq (.block none (.seq (.seq .leaf (.block none (.sum nm28_3 N28 r3))) (.seq (.seq .leaf (.block none (.sum nm28_4 N28 r4))) (.seq .leaf (.seq (.seq .leaf (.block none (.sum nm28_5 N28 r5))) (.seq .leaf (.block none (.sum nm28_6 N28 r6)))))))) .leaf))
noncomputable def c28_7 : Code := subC (Try.f28.body.get!) [1, 1, 1, 1, 1, 1, 1, 1, 1, 1, 1, 0, 1, 0, 0]
def nm28_7 : Nm := [(2, .any), (4, .any), (21, .any), (22, .any)]
def nx28_7 : Nm := [(2, .any), (21, .any)]
def x28_7 : An := (.seq (.seq .leaf (.cond .leaf .leaf)) (.seq (.block none .leaf) .leaf))
def an28 (r0 : RunL) (r1 : RunL) (r2 : RunL) (r7 : RunL) : An := (.seq .leaf (.seq .leaf (.seq .leaf (.seq .leaf (.seq .leaf (.seq (.block none (.sum nm28_0 N28 r0)) (.seq .leaf (.seq (.seq .leaf (.block none (.sum nm28_1 N28 r1))) (.seq .leaf (.seq (.seq .leaf (.block none (.sum nm28_2 N28 r2))) (.seq .leaf (.seq (.seq .leaf (.block none (.sum nm28_7 N28 r7))) (.seq .leaf .leaf)))))))))))))
def lpS28_0 (f : Nat) (rc : Bool → Bool → List PV → Nat → List PV → List PV → List PV → List PV → Option Res) (k0 : Bool → Bool → List PV → Nat → List PV → List PV → List PV → List PV → Option Res) (v0 : Bool) (v1 : Bool) (v2 : List PV) (v3 : Nat) (v4 : List PV) (v5 : List PV) (v6 : List PV) (v7 : List PV) : Option Res := bif (zi v3).tmod 64 != 56 then bif roomy (v3 + 1) 1 && true then rc v0 v1 v2 (v3 + 1) v4 v5 v6 (List.take v3 v7 ++ [.sc (.int .u8 0)]) else none else k0 v0 v1 v2 v3 v4 v5 v6 v7
def lp28_0 (f : Nat) (k0 : Bool → Bool → List PV → Nat → List PV → List PV → List PV → List PV → Option Res) : Nat → Bool → Bool → List PV → Nat → List PV → List PV → List PV → List PV → Option Res
  | 0, _, _, _, _, _, _, _, _ => none
  | n + 1, v0, v1, v2, v3, v4, v5, v6, v7 => lpS28_0 f (lp28_0 f k0 n) k0 v0 v1 v2 v3 v4 v5 v6 v7
theorem lpR28_0 (f : Nat) (k : Kont) (n : Nat) (v0 : Bool) (v1 : Bool) (v2 : List PV) (v3 : Nat) (v4 : List PV) (v5 : List PV) (v6 : List PV) (v7 : List PV) : evLoop tau 0 nm28_0 (fun s k => ev tau F28 0 0 c28_0 (x28_0 ) s k) (n + 1) (fillS nm28_0 N28 [.ro 5 v0 v1 v2, .ptr 4464 [], .ptr 4465 [], .ptr 4466 [], .ow 5 4467 [] 0 v3 none] [(4464, .box false 37 (PV.ar 37 v4)), (4465, .box false 118 (PV.ar 118 v5)), (4466, .box false 112 (PV.ar 112 v6)), (4467, .vec false 5 false v7)]) (kNorm tau 0 nx28_0 k) = lpS28_0 f (fun v0 v1 v2 v3 v4 v5 v6 v7 => evLoop tau 0 nm28_0 (fun s k => ev tau F28 0 0 c28_0 (x28_0 ) s k) n (fillS nm28_0 N28 [.ro 5 v0 v1 v2, .ptr 4464 [], .ptr 4465 [], .ptr 4466 [], .ow 5 4467 [] 0 v3 none] [(4464, .box false 37 (PV.ar 37 v4)), (4465, .box false 118 (PV.ar 118 v5)), (4466, .box false 112 (PV.ar 112 v6)), (4467, .vec false 5 false v7)]) (kNorm tau 0 nx28_0 k)) (fun x0 x1 x2 x3 x4 x5 x6 x7 => k (Ex.exit 0) (fillS nx28_0 N28 [.ro 5 x0 x1 x2, .ptr 4464 [], .ptr 4465 [], .ptr 4466 [], .ow 5 4467 [] 0 x3 none] [(4464, .box false 37 (PV.ar 37 x4)), (4465, .box false 118 (PV.ar 118 x5)), (4466, .box false 112 (PV.ar 112 x6)), (4467, .vec false 5 false x7)])) v0 v1 v2 v3 v4 v5 v6 v7 := by kernel_rfl
theorem lpE28_0 (f : Nat) (k : Kont) : ∀ (n : Nat) (v0 : Bool) (v1 : Bool) (v2 : List PV) (v3 : Nat) (v4 : List PV) (v5 : List PV) (v6 : List PV) (v7 : List PV), evLoop tau 0 nm28_0 (fun s k => ev tau F28 0 0 c28_0 (x28_0 ) s k) n (fillS nm28_0 N28 [.ro 5 v0 v1 v2, .ptr 4464 [], .ptr 4465 [], .ptr 4466 [], .ow 5 4467 [] 0 v3 none] [(4464, .box false 37 (PV.ar 37 v4)), (4465, .box false 118 (PV.ar 118 v5)), (4466, .box false 112 (PV.ar 112 v6)), (4467, .vec false 5 false v7)]) (kNorm tau 0 nx28_0 k) = lp28_0 f (fun x0 x1 x2 x3 x4 x5 x6 x7 => k (Ex.exit 0) (fillS nx28_0 N28 [.ro 5 x0 x1 x2, .ptr 4464 [], .ptr 4465 [], .ptr 4466 [], .ow 5 4467 [] 0 x3 none] [(4464, .box false 37 (PV.ar 37 x4)), (4465, .box false 118 (PV.ar 118 x5)), (4466, .box false 112 (PV.ar 112 x6)), (4467, .vec false 5 false x7)])) n v0 v1 v2 v3 v4 v5 v6 v7 | 0, _, _, _, _, _, _, _, _ => rfl | n + 1, v0, v1, v2, v3, v4, v5, v6, v7 => (lpR28_0 f k n v0 v1 v2 v3 v4 v5 v6 v7).trans (congrArg (fun r => lpS28_0 f r (fun x0 x1 x2 x3 x4 x5 x6 x7 => k (Ex.exit 0) (fillS nx28_0 N28 [.ro 5 x0 x1 x2, .ptr 4464 [], .ptr 4465 [], .ptr 4466 [], .ow 5 4467 [] 0 x3 none] [(4464, .box false 37 (PV.ar 37 x4)), (4465, .box false 118 (PV.ar 118 x5)), (4466, .box false 112 (PV.ar 112 x6)), (4467, .vec false 5 false x7)])) v0 v1 v2 v3 v4 v5 v6 v7) (by funext v0 v1 v2 v3 v4 v5 v6 v7; exact lpE28_0 f k n v0 v1 v2 v3 v4 v5 v6 v7))
def r28_0 (f : Nat) : List PV → List (Nat × Ent) → Kont → Option Res
  | [.ro 5 v0 v1 v2, .ptr 4464 [], .ptr 4465 [], .ptr 4466 [],
  PV.ow 5 4467 [] 0 v3
    none], [(4464, .box false 37 (PV.ar 37 v4)), (4465, .box false 118 (PV.ar 118 v5)), (4466, .box false 112 (PV.ar 112 v6)),
  (4467,
    Ent.vec false 5 false
      v7)], k => lp28_0 f (fun x0 x1 x2 x3 x4 x5 x6 x7 => k (Ex.exit
  0) (fillS nx28_0 N28 [.ro 5 x0 x1 x2, .ptr 4464 [], .ptr 4465 [], .ptr 4466 [],
  PV.ow 5 4467 [] 0 x3
    none] [(4464, .box false 37 (PV.ar 37 x4)), (4465, .box false 118 (PV.ar 118 x5)), (4466, .box false 112 (PV.ar 112 x6)), (4467, .vec false 5 false x7)])) f v0 v1 v2 v3 v4 v5 v6 v7
  | _, _, _ => none
theorem it28_0 (f : Nat) : items c28_0 x28_0 = [] := by kernel_rfl
theorem i17_0 (f : Nat) : (Item.l c28_0 nm28_0 N28 (r28_0 f)).Ok tau Try.prog 0 := loop_item tabOk F28_ok mixed (x := x28_0) (nm2 := nx28_0) (anOk_items _ _ (by rw [it28_0 f]; intro q hq; cases hq)) fun vs hp k res hr => by
  unfold r28_0 at hr
  split at hr
  · exact ⟨f, 0, (lpE28_0 f _ f _ _ _ _ _ _ _ _ ).trans hr⟩
  · cases hr
def lpS28_1 (f : Nat) (rc : Nat → Int → Int → List PV → List PV → List PV → List PV → Option Res) (k0 : Nat → List PV → List PV → List PV → List PV → Option Res) (v0 : Nat) (v1 : Int) (v2 : Int) (v3 : List PV) (v4 : List PV) (v5 : List PV) (v6 : List PV) : Option Res := bif decide (v2 ≥ 0) then bif decide (0 ≤ IntKind.u64.wrap (8 * IntKind.u64.wrap v2)) && true then bif roomy (v0 + 1) 1 && true then rc (v0 + 1) v1 (IntKind.i64.wrap (v2 - 1)) v3 v4 v5 (List.take v0 v6 ++ [.sc (.int .u8 (IntKind.u8.wrap (shrI IntKind.u64 v1 (IntKind.u64.wrap (8 * IntKind.u64.wrap v2)))))]) else none else none else k0 v0 v3 v4 v5 v6
def lp28_1 (f : Nat) (k0 : Nat → List PV → List PV → List PV → List PV → Option Res) : Nat → Nat → Int → Int → List PV → List PV → List PV → List PV → Option Res
  | 0, _, _, _, _, _, _, _ => none
  | n + 1, v0, v1, v2, v3, v4, v5, v6 => lpS28_1 f (lp28_1 f k0 n) k0 v0 v1 v2 v3 v4 v5 v6
theorem lpR28_1 (f : Nat) (k : Kont) (n : Nat) (v0 : Nat) (v1 : Int) (v2 : Int) (v3 : List PV) (v4 : List PV) (v5 : List PV) (v6 : List PV) : evLoop tau 0 nm28_1 (fun s k => ev tau F28 0 0 c28_1 (x28_1 ) s k) (n + 1) (fillS nm28_1 N28 [.ptr 4464 [], .ptr 4465 [], .ptr 4466 [], .ow 5 4467 [] 0 v0 none, .sc (.int .u64 v1), .sc (.int .i64 v2)] [(4464, .box false 37 (PV.ar 37 v3)), (4465, .box false 118 (PV.ar 118 v4)), (4466, .box false 112 (PV.ar 112 v5)), (4467, .vec false 5 false v6)]) (kNorm tau 0 nx28_1 k) = lpS28_1 f (fun v0 v1 v2 v3 v4 v5 v6 => evLoop tau 0 nm28_1 (fun s k => ev tau F28 0 0 c28_1 (x28_1 ) s k) n (fillS nm28_1 N28 [.ptr 4464 [], .ptr 4465 [], .ptr 4466 [], .ow 5 4467 [] 0 v0 none, .sc (.int .u64 v1), .sc (.int .i64 v2)] [(4464, .box false 37 (PV.ar 37 v3)), (4465, .box false 118 (PV.ar 118 v4)), (4466, .box false 112 (PV.ar 112 v5)), (4467, .vec false 5 false v6)]) (kNorm tau 0 nx28_1 k)) (fun x0 x1 x2 x3 x4 => k (Ex.exit 2) (fillS nx28_1 N28 [.ptr 4464 [], .ptr 4465 [], .ptr 4466 [], .ow 5 4467 [] 0 x0 none] [(4464, .box false 37 (PV.ar 37 x1)), (4465, .box false 118 (PV.ar 118 x2)), (4466, .box false 112 (PV.ar 112 x3)), (4467, .vec false 5 false x4)])) v0 v1 v2 v3 v4 v5 v6 := by kernel_rfl
theorem lpE28_1 (f : Nat) (k : Kont) : ∀ (n : Nat) (v0 : Nat) (v1 : Int) (v2 : Int) (v3 : List PV) (v4 : List PV) (v5 : List PV) (v6 : List PV), evLoop tau 0 nm28_1 (fun s k => ev tau F28 0 0 c28_1 (x28_1 ) s k) n (fillS nm28_1 N28 [.ptr 4464 [], .ptr 4465 [], .ptr 4466 [], .ow 5 4467 [] 0 v0 none, .sc (.int .u64 v1), .sc (.int .i64 v2)] [(4464, .box false 37 (PV.ar 37 v3)), (4465, .box false 118 (PV.ar 118 v4)), (4466, .box false 112 (PV.ar 112 v5)), (4467, .vec false 5 false v6)]) (kNorm tau 0 nx28_1 k) = lp28_1 f (fun x0 x1 x2 x3 x4 => k (Ex.exit 2) (fillS nx28_1 N28 [.ptr 4464 [], .ptr 4465 [], .ptr 4466 [], .ow 5 4467 [] 0 x0 none] [(4464, .box false 37 (PV.ar 37 x1)), (4465, .box false 118 (PV.ar 118 x2)), (4466, .box false 112 (PV.ar 112 x3)), (4467, .vec false 5 false x4)])) n v0 v1 v2 v3 v4 v5 v6 | 0, _, _, _, _, _, _, _ => rfl | n + 1, v0, v1, v2, v3, v4, v5, v6 => (lpR28_1 f k n v0 v1 v2 v3 v4 v5 v6).trans (congrArg (fun r => lpS28_1 f r (fun x0 x1 x2 x3 x4 => k (Ex.exit 2) (fillS nx28_1 N28 [.ptr 4464 [], .ptr 4465 [], .ptr 4466 [], .ow 5 4467 [] 0 x0 none] [(4464, .box false 37 (PV.ar 37 x1)), (4465, .box false 118 (PV.ar 118 x2)), (4466, .box false 112 (PV.ar 112 x3)), (4467, .vec false 5 false x4)])) v0 v1 v2 v3 v4 v5 v6) (by funext v0 v1 v2 v3 v4 v5 v6; exact lpE28_1 f k n v0 v1 v2 v3 v4 v5 v6))
def r28_1 (f : Nat) : List PV → List (Nat × Ent) → Kont → Option Res
  | [.ptr 4464 [], .ptr 4465 [], .ptr 4466 [], .ow 5 4467 [] 0 v0 none, .sc (.int .u64 v1),
  PV.sc
    (Value.int IntKind.i64
      v2)], [(4464, .box false 37 (PV.ar 37 v3)), (4465, .box false 118 (PV.ar 118 v4)), (4466, .box false 112 (PV.ar 112 v5)),
  (4467,
    Ent.vec false 5 false
      v6)], k => lp28_1 f (fun x0 x1 x2 x3 x4 => k (Ex.exit
  2) (fillS nx28_1 N28 [.ptr 4464 [], .ptr 4465 [], .ptr 4466 [],
  PV.ow 5 4467 [] 0 x0
    none] [(4464, .box false 37 (PV.ar 37 x1)), (4465, .box false 118 (PV.ar 118 x2)), (4466, .box false 112 (PV.ar 112 x3)), (4467, .vec false 5 false x4)])) f v0 v1 v2 v3 v4 v5 v6
  | _, _, _ => none
theorem it28_1 (f : Nat) : items c28_1 x28_1 = [] := by kernel_rfl
theorem i17_1 (f : Nat) : (Item.l c28_1 nm28_1 N28 (r28_1 f)).Ok tau Try.prog 0 := loop_item tabOk F28_ok mixed (x := x28_1) (nm2 := nx28_1) (anOk_items _ _ (by rw [it28_1 f]; intro q hq; cases hq)) fun vs hp k res hr => by
  unfold r28_1 at hr
  split at hr
  · exact ⟨f, 0, (lpE28_1 f _ f _ _ _ _ _ _ _ ).trans hr⟩
  · cases hr
def lpS28_3 (f : Nat) (rc : Nat → Int → Int → List PV → List PV → List PV → List PV → List PV → Option Res) (k0 : Nat → Int → List PV → List PV → List PV → List PV → List PV → Option Res) (v0 : Nat) (v1 : Int) (v2 : Int) (v3 : List PV) (v4 : List PV) (v5 : List PV) (v6 : List PV) (v7 : List PV) : Option Res := bif decide (v2 < 16) then bif decide (0 ≤ IntKind.i64.wrap (v1 + IntKind.i64.wrap (4 * v2))) && decide (IntKind.i64.wrap (v1 + IntKind.i64.wrap (4 * v2)) < zi v0) && true then bif PV.isInt IntKind.u8 (getP (v6.getD (0 + (IntKind.i64.wrap (v1 + IntKind.i64.wrap (4 * v2))).toNat) PV.top) []) && true then bif decide (0 ≤ IntKind.i64.wrap (IntKind.i64.wrap (v1 + IntKind.i64.wrap (4 * v2)) + 1)) && decide (IntKind.i64.wrap (IntKind.i64.wrap (v1 + IntKind.i64.wrap (4 * v2)) + 1) < zi v0) && true then bif PV.isInt IntKind.u8 (getP (v6.getD (0 + (IntKind.i64.wrap (IntKind.i64.wrap (v1 + IntKind.i64.wrap (4 * v2)) + 1)).toNat) PV.top) []) && true then bif decide (0 ≤ IntKind.i64.wrap (IntKind.i64.wrap (v1 + IntKind.i64.wrap (4 * v2)) + 2)) && decide (IntKind.i64.wrap (IntKind.i64.wrap (v1 + IntKind.i64.wrap (4 * v2)) + 2) < zi v0) && true then bif PV.isInt IntKind.u8 (getP (v6.getD (0 + (IntKind.i64.wrap (IntKind.i64.wrap (v1 + IntKind.i64.wrap (4 * v2)) + 2)).toNat) PV.top) []) && true then bif decide (0 ≤ IntKind.i64.wrap (IntKind.i64.wrap (v1 + IntKind.i64.wrap (4 * v2)) + 3)) && decide (IntKind.i64.wrap (IntKind.i64.wrap (v1 + IntKind.i64.wrap (4 * v2)) + 3) < zi v0) && true then bif PV.isInt IntKind.u8 (getP (v6.getD (0 + (IntKind.i64.wrap (IntKind.i64.wrap (v1 + IntKind.i64.wrap (4 * v2)) + 3)).toNat) PV.top) []) && true then bif decide (0 ≤ v2) && decide (v2 < zi 64) && true then rc v0 v1 (IntKind.i64.wrap (v2 + 1)) v3 v4 v5 v6 (v7.set v2.toNat (.sc (.int .u32 (bitI BinOp.or IntKind.u32 (bitI BinOp.or IntKind.u32 (bitI BinOp.or IntKind.u32 (shlI IntKind.u32 (IntKind.u32.wrap (getP (v6.getD (0 + (IntKind.i64.wrap (v1 + IntKind.i64.wrap (4 * v2))).toNat) PV.top) []).int) 24) (shlI IntKind.u32 (IntKind.u32.wrap (getP (v6.getD (0 + (IntKind.i64.wrap (IntKind.i64.wrap (v1 + IntKind.i64.wrap (4 * v2)) + 1)).toNat) PV.top) []).int) 16)) (shlI IntKind.u32 (IntKind.u32.wrap (getP (v6.getD (0 + (IntKind.i64.wrap (IntKind.i64.wrap (v1 + IntKind.i64.wrap (4 * v2)) + 2)).toNat) PV.top) []).int) 8)) (IntKind.u32.wrap (getP (v6.getD (0 + (IntKind.i64.wrap (IntKind.i64.wrap (v1 + IntKind.i64.wrap (4 * v2)) + 3)).toNat) PV.top) []).int))))) else none else none else none else none else none else none else none else none else none else k0 v0 v1 v3 v4 v5 v6 v7
def lp28_3 (f : Nat) (k0 : Nat → Int → List PV → List PV → List PV → List PV → List PV → Option Res) : Nat → Nat → Int → Int → List PV → List PV → List PV → List PV → List PV → Option Res
  | 0, _, _, _, _, _, _, _, _ => none
  | n + 1, v0, v1, v2, v3, v4, v5, v6, v7 => lpS28_3 f (lp28_3 f k0 n) k0 v0 v1 v2 v3 v4 v5 v6 v7
theorem lpR28_3 (f : Nat) (k : Kont) (n : Nat) (v0 : Nat) (v1 : Int) (v2 : Int) (v3 : List PV) (v4 : List PV) (v5 : List PV) (v6 : List PV) (v7 : List PV) : evLoop tau 0 nm28_3 (fun s k => ev tau F28 0 0 c28_3 (x28_3 ) s k) (n + 1) (fillS nm28_3 N28 [.ptr 4464 [], .ptr 4465 [], .ptr 4466 [], .ow 5 4467 [] 0 v0 none, .ptr 4468 [], .sc (.int .i64 v1), .sc (.int .i64 v2)] [(4464, .box false 37 (PV.ar 37 v3)), (4465, .box false 118 (PV.ar 118 v4)), (4466, .box false 112 (PV.ar 112 v5)), (4467, .vec false 5 false v6), (4468, .box false 118 (PV.ar 118 v7))]) (kNorm tau 0 nx28_3 k) = lpS28_3 f (fun v0 v1 v2 v3 v4 v5 v6 v7 => evLoop tau 0 nm28_3 (fun s k => ev tau F28 0 0 c28_3 (x28_3 ) s k) n (fillS nm28_3 N28 [.ptr 4464 [], .ptr 4465 [], .ptr 4466 [], .ow 5 4467 [] 0 v0 none, .ptr 4468 [], .sc (.int .i64 v1), .sc (.int .i64 v2)] [(4464, .box false 37 (PV.ar 37 v3)), (4465, .box false 118 (PV.ar 118 v4)), (4466, .box false 112 (PV.ar 112 v5)), (4467, .vec false 5 false v6), (4468, .box false 118 (PV.ar 118 v7))]) (kNorm tau 0 nx28_3 k)) (fun x0 x1 x2 x3 x4 x5 x6 => k (Ex.exit 6) (fillS nx28_3 N28 [.ptr 4464 [], .ptr 4465 [], .ptr 4466 [], .ow 5 4467 [] 0 x0 none, .ptr 4468 [], .sc (.int .i64 x1)] [(4464, .box false 37 (PV.ar 37 x2)), (4465, .box false 118 (PV.ar 118 x3)), (4466, .box false 112 (PV.ar 112 x4)), (4467, .vec false 5 false x5), (4468, .box false 118 (PV.ar 118 x6))])) v0 v1 v2 v3 v4 v5 v6 v7 := by kernel_rfl
theorem lpE28_3 (f : Nat) (k : Kont) : ∀ (n : Nat) (v0 : Nat) (v1 : Int) (v2 : Int) (v3 : List PV) (v4 : List PV) (v5 : List PV) (v6 : List PV) (v7 : List PV), evLoop tau 0 nm28_3 (fun s k => ev tau F28 0 0 c28_3 (x28_3 ) s k) n (fillS nm28_3 N28 [.ptr 4464 [], .ptr 4465 [], .ptr 4466 [], .ow 5 4467 [] 0 v0 none, .ptr 4468 [], .sc (.int .i64 v1), .sc (.int .i64 v2)] [(4464, .box false 37 (PV.ar 37 v3)), (4465, .box false 118 (PV.ar 118 v4)), (4466, .box false 112 (PV.ar 112 v5)), (4467, .vec false 5 false v6), (4468, .box false 118 (PV.ar 118 v7))]) (kNorm tau 0 nx28_3 k) = lp28_3 f (fun x0 x1 x2 x3 x4 x5 x6 => k (Ex.exit 6) (fillS nx28_3 N28 [.ptr 4464 [], .ptr 4465 [], .ptr 4466 [], .ow 5 4467 [] 0 x0 none, .ptr 4468 [], .sc (.int .i64 x1)] [(4464, .box false 37 (PV.ar 37 x2)), (4465, .box false 118 (PV.ar 118 x3)), (4466, .box false 112 (PV.ar 112 x4)), (4467, .vec false 5 false x5), (4468, .box false 118 (PV.ar 118 x6))])) n v0 v1 v2 v3 v4 v5 v6 v7 | 0, _, _, _, _, _, _, _, _ => rfl | n + 1, v0, v1, v2, v3, v4, v5, v6, v7 => (lpR28_3 f k n v0 v1 v2 v3 v4 v5 v6 v7).trans (congrArg (fun r => lpS28_3 f r (fun x0 x1 x2 x3 x4 x5 x6 => k (Ex.exit 6) (fillS nx28_3 N28 [.ptr 4464 [], .ptr 4465 [], .ptr 4466 [], .ow 5 4467 [] 0 x0 none, .ptr 4468 [], .sc (.int .i64 x1)] [(4464, .box false 37 (PV.ar 37 x2)), (4465, .box false 118 (PV.ar 118 x3)), (4466, .box false 112 (PV.ar 112 x4)), (4467, .vec false 5 false x5), (4468, .box false 118 (PV.ar 118 x6))])) v0 v1 v2 v3 v4 v5 v6 v7) (by funext v0 v1 v2 v3 v4 v5 v6 v7; exact lpE28_3 f k n v0 v1 v2 v3 v4 v5 v6 v7))
def r28_3 (f : Nat) : List PV → List (Nat × Ent) → Kont → Option Res
  | [.ptr 4464 [], .ptr 4465 [], .ptr 4466 [], .ow 5 4467 [] 0 v0 none, .ptr 4468 [], .sc (.int .i64 v1),
  PV.sc
    (Value.int IntKind.i64
      v2)], [(4464, .box false 37 (PV.ar 37 v3)), (4465, .box false 118 (PV.ar 118 v4)), (4466, .box false 112 (PV.ar 112 v5)), (4467, .vec false 5 false v6),
  (4468,
    Ent.box false 118
      (PV.ar 118
        v7))], k => lp28_3 f (fun x0 x1 x2 x3 x4 x5 x6 => k (Ex.exit
  6) (fillS nx28_3 N28 [.ptr 4464 [], .ptr 4465 [], .ptr 4466 [], .ow 5 4467 [] 0 x0 none, .ptr 4468 [],
  PV.sc
    (Value.int IntKind.i64
      x1)] [(4464, .box false 37 (PV.ar 37 x2)), (4465, .box false 118 (PV.ar 118 x3)), (4466, .box false 112 (PV.ar 112 x4)), (4467, .vec false 5 false x5),
  (4468, .box false 118 (PV.ar 118 x6))])) f v0 v1 v2 v3 v4 v5 v6 v7
  | _, _, _ => none
theorem it28_3 (f : Nat) : items c28_3 x28_3 = [] := by kernel_rfl
theorem i17_3 (f : Nat) : (Item.l c28_3 nm28_3 N28 (r28_3 f)).Ok tau Try.prog 0 := loop_item tabOk F28_ok mixed (x := x28_3) (nm2 := nx28_3) (anOk_items _ _ (by rw [it28_3 f]; intro q hq; cases hq)) fun vs hp k res hr => by
  unfold r28_3 at hr
  split at hr
  · exact ⟨f, 0, (lpE28_3 f _ f _ _ _ _ _ _ _ _ ).trans hr⟩
  · cases hr
def lpS28_4 (f : Nat) (rc : Nat → Int → Int → List PV → List PV → List PV → List PV → List PV → Option Res) (k0 : Nat → Int → List PV → List PV → List PV → List PV → List PV → Option Res) (v0 : Nat) (v1 : Int) (v2 : Int) (v3 : List PV) (v4 : List PV) (v5 : List PV) (v6 : List PV) (v7 : List PV) : Option Res := bif decide (v2 < 64) then bif decide (0 ≤ IntKind.i64.wrap (v2 - 15)) && decide (IntKind.i64.wrap (v2 - 15) < zi 64) && true then bif PV.isInt IntKind.u32 (getP (PV.ar 118 v7) [(IntKind.i64.wrap (v2 - 15)).toNat]) && true then bif decide (0 ≤ IntKind.i64.wrap (v2 - 2)) && decide (IntKind.i64.wrap (v2 - 2) < zi 64) && true then bif PV.isInt IntKind.u32 (getP (PV.ar 118 v7) [(IntKind.i64.wrap (v2 - 2)).toNat]) && true then bif decide (0 ≤ IntKind.i64.wrap (v2 - 7)) && decide (IntKind.i64.wrap (v2 - 7) < zi 64) && true then bif PV.isInt IntKind.u32 (getP (PV.ar 118 v7) [(IntKind.i64.wrap (v2 - 7)).toNat]) && true then bif decide (0 ≤ IntKind.i64.wrap (v2 - 16)) && decide (IntKind.i64.wrap (v2 - 16) < zi 64) && true then bif PV.isInt IntKind.u32 (getP (PV.ar 118 v7) [(IntKind.i64.wrap (v2 - 16)).toNat]) && true then bif decide (0 ≤ v2) && decide (v2 < zi 64) && true then rc v0 v1 (IntKind.i64.wrap (v2 + 1)) v3 v4 v5 v6 (v7.set v2.toNat (.sc (.int .u32 (IntKind.u32.wrap (IntKind.u32.wrap (IntKind.u32.wrap (bitI BinOp.xor IntKind.u32 (bitI BinOp.xor IntKind.u32 (rr (getP (PV.ar 118 v7) [(IntKind.i64.wrap (v2 - 2)).toNat]).int 17) (rr (getP (PV.ar 118 v7) [(IntKind.i64.wrap (v2 - 2)).toNat]).int 19)) (shrI IntKind.u32 (getP (PV.ar 118 v7) [(IntKind.i64.wrap (v2 - 2)).toNat]).int 10) + (getP (PV.ar 118 v7) [(IntKind.i64.wrap (v2 - 7)).toNat]).int) + bitI BinOp.xor IntKind.u32 (bitI BinOp.xor IntKind.u32 (rr (getP (PV.ar 118 v7) [(IntKind.i64.wrap (v2 - 15)).toNat]).int 7) (rr (getP (PV.ar 118 v7) [(IntKind.i64.wrap (v2 - 15)).toNat]).int 18)) (shrI IntKind.u32 (getP (PV.ar 118 v7) [(IntKind.i64.wrap (v2 - 15)).toNat]).int 3)) + (getP (PV.ar 118 v7) [(IntKind.i64.wrap (v2 - 16)).toNat]).int))))) else none else none else none else none else none else none else none else none else none else k0 v0 v1 v3 v4 v5 v6 v7
def lp28_4 (f : Nat) (k0 : Nat → Int → List PV → List PV → List PV → List PV → List PV → Option Res) : Nat → Nat → Int → Int → List PV → List PV → List PV → List PV → List PV → Option Res
  | 0, _, _, _, _, _, _, _, _ => none
  | n + 1, v0, v1, v2, v3, v4, v5, v6, v7 => lpS28_4 f (lp28_4 f k0 n) k0 v0 v1 v2 v3 v4 v5 v6 v7
theorem lpR28_4 (f : Nat) (k : Kont) (n : Nat) (v0 : Nat) (v1 : Int) (v2 : Int) (v3 : List PV) (v4 : List PV) (v5 : List PV) (v6 : List PV) (v7 : List PV) : evLoop tau 0 nm28_4 (fun s k => ev tau F28 0 0 c28_4 (x28_4 ) s k) (n + 1) (fillS nm28_4 N28 [.ptr 4464 [], .ptr 4465 [], .ptr 4466 [], .ow 5 4467 [] 0 v0 none, .ptr 4468 [], .sc (.int .i64 v1), .sc (.int .i64 v2)] [(4464, .box false 37 (PV.ar 37 v3)), (4465, .box false 118 (PV.ar 118 v4)), (4466, .box false 112 (PV.ar 112 v5)), (4467, .vec false 5 false v6), (4468, .box false 118 (PV.ar 118 v7))]) (kNorm tau 0 nx28_4 k) = lpS28_4 f (fun v0 v1 v2 v3 v4 v5 v6 v7 => evLoop tau 0 nm28_4 (fun s k => ev tau F28 0 0 c28_4 (x28_4 ) s k) n (fillS nm28_4 N28 [.ptr 4464 [], .ptr 4465 [], .ptr 4466 [], .ow 5 4467 [] 0 v0 none, .ptr 4468 [], .sc (.int .i64 v1), .sc (.int .i64 v2)] [(4464, .box false 37 (PV.ar 37 v3)), (4465, .box false 118 (PV.ar 118 v4)), (4466, .box false 112 (PV.ar 112 v5)), (4467, .vec false 5 false v6), (4468, .box false 118 (PV.ar 118 v7))]) (kNorm tau 0 nx28_4 k)) (fun x0 x1 x2 x3 x4 x5 x6 => k (Ex.exit 8) (fillS nx28_4 N28 [.ptr 4464 [], .ptr 4465 [], .ptr 4466 [], .ow 5 4467 [] 0 x0 none, .ptr 4468 [], .sc (.int .i64 x1)] [(4464, .box false 37 (PV.ar 37 x2)), (4465, .box false 118 (PV.ar 118 x3)), (4466, .box false 112 (PV.ar 112 x4)), (4467, .vec false 5 false x5), (4468, .box false 118 (PV.ar 118 x6))])) v0 v1 v2 v3 v4 v5 v6 v7 := by kernel_rfl
theorem lpE28_4 (f : Nat) (k : Kont) : ∀ (n : Nat) (v0 : Nat) (v1 : Int) (v2 : Int) (v3 : List PV) (v4 : List PV) (v5 : List PV) (v6 : List PV) (v7 : List PV), evLoop tau 0 nm28_4 (fun s k => ev tau F28 0 0 c28_4 (x28_4 ) s k) n (fillS nm28_4 N28 [.ptr 4464 [], .ptr 4465 [], .ptr 4466 [], .ow 5 4467 [] 0 v0 none, .ptr 4468 [], .sc (.int .i64 v1), .sc (.int .i64 v2)] [(4464, .box false 37 (PV.ar 37 v3)), (4465, .box false 118 (PV.ar 118 v4)), (4466, .box false 112 (PV.ar 112 v5)), (4467, .vec false 5 false v6), (4468, .box false 118 (PV.ar 118 v7))]) (kNorm tau 0 nx28_4 k) = lp28_4 f (fun x0 x1 x2 x3 x4 x5 x6 => k (Ex.exit 8) (fillS nx28_4 N28 [.ptr 4464 [], .ptr 4465 [], .ptr 4466 [], .ow 5 4467 [] 0 x0 none, .ptr 4468 [], .sc (.int .i64 x1)] [(4464, .box false 37 (PV.ar 37 x2)), (4465, .box false 118 (PV.ar 118 x3)), (4466, .box false 112 (PV.ar 112 x4)), (4467, .vec false 5 false x5), (4468, .box false 118 (PV.ar 118 x6))])) n v0 v1 v2 v3 v4 v5 v6 v7 | 0, _, _, _, _, _, _, _, _ => rfl | n + 1, v0, v1, v2, v3, v4, v5, v6, v7 => (lpR28_4 f k n v0 v1 v2 v3 v4 v5 v6 v7).trans (congrArg (fun r => lpS28_4 f r (fun x0 x1 x2 x3 x4 x5 x6 => k (Ex.exit 8) (fillS nx28_4 N28 [.ptr 4464 [], .ptr 4465 [], .ptr 4466 [], .ow 5 4467 [] 0 x0 none, .ptr 4468 [], .sc (.int .i64 x1)] [(4464, .box false 37 (PV.ar 37 x2)), (4465, .box false 118 (PV.ar 118 x3)), (4466, .box false 112 (PV.ar 112 x4)), (4467, .vec false 5 false x5), (4468, .box false 118 (PV.ar 118 x6))])) v0 v1 v2 v3 v4 v5 v6 v7) (by funext v0 v1 v2 v3 v4 v5 v6 v7; exact lpE28_4 f k n v0 v1 v2 v3 v4 v5 v6 v7))
def r28_4 (f : Nat) : List PV → List (Nat × Ent) → Kont → Option Res
  | [.ptr 4464 [], .ptr 4465 [], .ptr 4466 [], .ow 5 4467 [] 0 v0 none, .ptr 4468 [], .sc (.int .i64 v1),
  PV.sc
    (Value.int IntKind.i64
      v2)], [(4464, .box false 37 (PV.ar 37 v3)), (4465, .box false 118 (PV.ar 118 v4)), (4466, .box false 112 (PV.ar 112 v5)), (4467, .vec false 5 false v6),
  (4468,
    Ent.box false 118
      (PV.ar 118
        v7))], k => lp28_4 f (fun x0 x1 x2 x3 x4 x5 x6 => k (Ex.exit
  8) (fillS nx28_4 N28 [.ptr 4464 [], .ptr 4465 [], .ptr 4466 [], .ow 5 4467 [] 0 x0 none, .ptr 4468 [],
  PV.sc
    (Value.int IntKind.i64
      x1)] [(4464, .box false 37 (PV.ar 37 x2)), (4465, .box false 118 (PV.ar 118 x3)), (4466, .box false 112 (PV.ar 112 x4)), (4467, .vec false 5 false x5),
  (4468, .box false 118 (PV.ar 118 x6))])) f v0 v1 v2 v3 v4 v5 v6 v7
  | _, _, _ => none
theorem it28_4 (f : Nat) : items c28_4 x28_4 = [] := by kernel_rfl
theorem i17_4 (f : Nat) : (Item.l c28_4 nm28_4 N28 (r28_4 f)).Ok tau Try.prog 0 := loop_item tabOk F28_ok mixed (x := x28_4) (nm2 := nx28_4) (anOk_items _ _ (by rw [it28_4 f]; intro q hq; cases hq)) fun vs hp k res hr => by
  unfold r28_4 at hr
  split at hr
  · exact ⟨f, 0, (lpE28_4 f _ f _ _ _ _ _ _ _ _ ).trans hr⟩
  · cases hr
def lpS28_5 (f : Nat) (rc : Nat → Int → Int → List PV → List PV → List PV → List PV → List PV → List PV → Option Res) (k0 : Nat → Int → List PV → List PV → List PV → List PV → List PV → List PV → Option Res) (v0 : Nat) (v1 : Int) (v2 : Int) (v3 : List PV) (v4 : List PV) (v5 : List PV) (v6 : List PV) (v7 : List PV) (v8 : List PV) : Option Res := bif decide (v2 < 64) then bif PV.isInt IntKind.u32 (getP (PV.ar 112 v8) [4]) && true then bif PV.isInt IntKind.u32 (getP (PV.ar 112 v8) [7]) && true then bif PV.isInt IntKind.u32 (getP (PV.ar 112 v8) [5]) && true then bif PV.isInt IntKind.u32 (getP (PV.ar 112 v8) [6]) && true then bif decide (0 ≤ v2) && decide (v2 < zi 64) && true then bif PV.isInt IntKind.u32 (getP (PV.ar 118 v4) [v2.toNat]) && true then bif decide (0 ≤ v2) && decide (v2 < zi 64) && true then bif PV.isInt IntKind.u32 (getP (PV.ar 118 v7) [v2.toNat]) && true then bif PV.isInt IntKind.u32 (getP (PV.ar 112 v8) [0]) && true then bif PV.isInt IntKind.u32 (getP (PV.ar 112 v8) [0]) && true then bif PV.isInt IntKind.u32 (getP (PV.ar 112 v8) [0]) && true then bif PV.isInt IntKind.u32 (getP (PV.ar 112 v8) [0]) && true then bif PV.isInt IntKind.u32 (getP (PV.ar 112 v8) [1]) && true then bif PV.isInt IntKind.u32 (getP (PV.ar 112 v8) [0]) && true then bif PV.isInt IntKind.u32 (getP (PV.ar 112 v8) [2]) && true then bif PV.isInt IntKind.u32 (getP (PV.ar 112 v8) [1]) && true then bif PV.isInt IntKind.u32 (getP (PV.ar 112 v8) [2]) && true then bif PV.isInt IntKind.u32 (getP (PV.ar 112 v8) [0]) && true then bif PV.isInt IntKind.u32 (getP (PV.ar 112 v8) [1]) && true then bif PV.isInt IntKind.u32 (getP (PV.ar 112 v8) [2]) && true then bif PV.isInt IntKind.u32 (getP (PV.ar 112 v8) [3]) && true then bif PV.isInt IntKind.u32 (getP (PV.ar 112 v8) [4]) && true then bif PV.isInt IntKind.u32 (getP (PV.ar 112 v8) [5]) && true then bif PV.isInt IntKind.u32 (getP (PV.ar 112 v8) [6]) && true then rc v0 v1 (IntKind.i64.wrap (v2 + 1)) v3 v4 v5 v6 v7 ([.sc (.int .u32 (IntKind.u32.wrap (IntKind.u32.wrap (IntKind.u32.wrap (IntKind.u32.wrap (IntKind.u32.wrap ((getP (PV.ar 112 v8) [7]).int + bitI BinOp.xor IntKind.u32 (bitI BinOp.xor IntKind.u32 (rr (getP (PV.ar 112 v8) [4]).int 6) (rr (getP (PV.ar 112 v8) [4]).int 11)) (rr (getP (PV.ar 112 v8) [4]).int 25)) + bitI BinOp.xor IntKind.u32 (bitI BinOp.and IntKind.u32 (getP (PV.ar 112 v8) [4]).int (getP (PV.ar 112 v8) [5]).int) (bitI BinOp.and IntKind.u32 (bitI BinOp.xor IntKind.u32 (Int.ofNat (2 ^ IntKind.u32.bits - Nat.succ 0)) (getP (PV.ar 112 v8) [4]).int) (getP (PV.ar 112 v8) [6]).int)) + (getP (PV.ar 118 v4) [v2.toNat]).int) + (getP (PV.ar 118 v7) [v2.toNat]).int) + IntKind.u32.wrap (bitI BinOp.xor IntKind.u32 (bitI BinOp.xor IntKind.u32 (rr (getP (PV.ar 112 v8) [0]).int 2) (rr (getP (PV.ar 112 v8) [0]).int 13)) (rr (getP (PV.ar 112 v8) [0]).int 22) + bitI BinOp.xor IntKind.u32 (bitI BinOp.xor IntKind.u32 (bitI BinOp.and IntKind.u32 (getP (PV.ar 112 v8) [0]).int (getP (PV.ar 112 v8) [1]).int) (bitI BinOp.and IntKind.u32 (getP (PV.ar 112 v8) [0]).int (getP (PV.ar 112 v8) [2]).int)) (bitI BinOp.and IntKind.u32 (getP (PV.ar 112 v8) [1]).int (getP (PV.ar 112 v8) [2]).int))))), .sc (.int .u32 (getP (PV.ar 112 v8) [0]).int), .sc (.int .u32 (getP (PV.ar 112 v8) [1]).int), .sc (.int .u32 (getP (PV.ar 112 v8) [2]).int), .sc (.int .u32 (IntKind.u32.wrap ((getP (PV.ar 112 v8) [3]).int + IntKind.u32.wrap (IntKind.u32.wrap (IntKind.u32.wrap (IntKind.u32.wrap ((getP (PV.ar 112 v8) [7]).int + bitI BinOp.xor IntKind.u32 (bitI BinOp.xor IntKind.u32 (rr (getP (PV.ar 112 v8) [4]).int 6) (rr (getP (PV.ar 112 v8) [4]).int 11)) (rr (getP (PV.ar 112 v8) [4]).int 25)) + bitI BinOp.xor IntKind.u32 (bitI BinOp.and IntKind.u32 (getP (PV.ar 112 v8) [4]).int (getP (PV.ar 112 v8) [5]).int) (bitI BinOp.and IntKind.u32 (bitI BinOp.xor IntKind.u32 (Int.ofNat (2 ^ IntKind.u32.bits - Nat.succ 0)) (getP (PV.ar 112 v8) [4]).int) (getP (PV.ar 112 v8) [6]).int)) + (getP (PV.ar 118 v4) [v2.toNat]).int) + (getP (PV.ar 118 v7) [v2.toNat]).int)))), .sc (.int .u32 (getP (PV.ar 112 v8) [4]).int), .sc (.int .u32 (getP (PV.ar 112 v8) [5]).int), .sc (.int .u32 (getP (PV.ar 112 v8) [6]).int)]) else none else none else none else none else none else none else none else none else none else none else none else none else none else none else none else none else none else none else none else none else none else none else none else none else k0 v0 v1 v3 v4 v5 v6 v7 v8
def lp28_5 (f : Nat) (k0 : Nat → Int → List
  PV → List PV → List PV → List PV → List PV → List PV → Option Res) : Nat → Nat → Int → Int → List PV → List PV → List PV → List PV → List PV → List PV → Option Res
  | 0, _, _, _, _, _, _, _, _, _ => none
  | n + 1, v0, v1, v2, v3, v4, v5, v6, v7, v8 => lpS28_5 f (lp28_5 f k0 n) k0 v0 v1 v2 v3 v4 v5 v6 v7 v8
theorem lpR28_5 (f : Nat) (k : Kont) (n : Nat) (v0 : Nat) (v1 : Int) (v2 : Int) (v3 : List PV) (v4 : List PV) (v5 : List PV) (v6 : List PV) (v7 : List PV) (v8 : List PV) : evLoop tau 0 nm28_5 (fun s k => ev tau F28 0 0 c28_5 (x28_5 ) s k) (n + 1) (fillS nm28_5 N28 [.ptr 4464 [], .ptr 4465 [], .ptr 4466 [], .ow 5 4467 [] 0 v0 none, .ptr 4468 [], .sc (.int .i64 v1), .ptr 4469 [], .sc (.int .i64 v2)] [(4464, .box false 37 (PV.ar 37 v3)), (4465, .box false 118 (PV.ar 118 v4)), (4466, .box false 112 (PV.ar 112 v5)), (4467, .vec false 5 false v6), (4468, .box false 118 (PV.ar 118 v7)), (4469, .box false 112 (PV.ar 112 v8))]) (kNorm tau 0 nx28_5 k) = lpS28_5 f (fun v0 v1 v2 v3 v4 v5 v6 v7 v8 => evLoop tau 0 nm28_5 (fun s k => ev tau F28 0 0 c28_5 (x28_5 ) s k) n (fillS nm28_5 N28 [.ptr 4464 [], .ptr 4465 [], .ptr 4466 [], .ow 5 4467 [] 0 v0 none, .ptr 4468 [], .sc (.int .i64 v1), .ptr 4469 [], .sc (.int .i64 v2)] [(4464, .box false 37 (PV.ar 37 v3)), (4465, .box false 118 (PV.ar 118 v4)), (4466, .box false 112 (PV.ar 112 v5)), (4467, .vec false 5 false v6), (4468, .box false 118 (PV.ar 118 v7)), (4469, .box false 112 (PV.ar 112 v8))]) (kNorm tau 0 nx28_5 k)) (fun x0 x1 x2 x3 x4 x5 x6 x7 => k (Ex.exit 10) (fillS nx28_5 N28 [.ptr 4464 [], .ptr 4465 [], .ptr 4466 [], .ow 5 4467 [] 0 x0 none, .ptr 4468 [], .sc (.int .i64 x1), .ptr 4469 []] [(4464, .box false 37 (PV.ar 37 x2)), (4465, .box false 118 (PV.ar 118 x3)), (4466, .box false 112 (PV.ar 112 x4)), (4467, .vec false 5 false x5), (4468, .box false 118 (PV.ar 118 x6)), (4469, .box false 112 (PV.ar 112 x7))])) v0 v1 v2 v3 v4 v5 v6 v7 v8 := by kernel_rfl
theorem lpE28_5 (f : Nat) (k : Kont) : ∀ (n : Nat) (v0 : Nat) (v1 : Int) (v2 : Int) (v3 : List PV) (v4 : List PV) (v5 : List PV) (v6 : List PV) (v7 : List PV) (v8 : List PV), evLoop tau 0 nm28_5 (fun s k => ev tau F28 0 0 c28_5 (x28_5 ) s k) n (fillS nm28_5 N28 [.ptr 4464 [], .ptr 4465 [], .ptr 4466 [], .ow 5 4467 [] 0 v0 none, .ptr 4468 [], .sc (.int .i64 v1), .ptr 4469 [], .sc (.int .i64 v2)] [(4464, .box false 37 (PV.ar 37 v3)), (4465, .box false 118 (PV.ar 118 v4)), (4466, .box false 112 (PV.ar 112 v5)), (4467, .vec false 5 false v6), (4468, .box false 118 (PV.ar 118 v7)), (4469, .box false 112 (PV.ar 112 v8))]) (kNorm tau 0 nx28_5 k) = lp28_5 f (fun x0 x1 x2 x3 x4 x5 x6 x7 => k (Ex.exit 10) (fillS nx28_5 N28 [.ptr 4464 [], .ptr 4465 [], .ptr 4466 [], .ow 5 4467 [] 0 x0 none, .ptr 4468 [], .sc (.int .i64 x1), .ptr 4469 []] [(4464, .box false 37 (PV.ar 37 x2)), (4465, .box false 118 (PV.ar 118 x3)), (4466, .box false 112 (PV.ar 112 x4)), (4467, .vec false 5 false x5), (4468, .box false 118 (PV.ar 118 x6)), (4469, .box false 112 (PV.ar 112 x7))])) n v0 v1 v2 v3 v4 v5 v6 v7 v8 | 0, _, _, _, _, _, _, _, _, _ => rfl | n + 1, v0, v1, v2, v3, v4, v5, v6, v7, v8 => (lpR28_5 f k n v0 v1 v2 v3 v4 v5 v6 v7 v8).trans (congrArg (fun r => lpS28_5 f r (fun x0 x1 x2 x3 x4 x5 x6 x7 => k (Ex.exit 10) (fillS nx28_5 N28 [.ptr 4464 [], .ptr 4465 [], .ptr 4466 [], .ow 5 4467 [] 0 x0 none, .ptr 4468 [], .sc (.int .i64 x1), .ptr 4469 []] [(4464, .box false 37 (PV.ar 37 x2)), (4465, .box false 118 (PV.ar 118 x3)), (4466, .box false 112 (PV.ar 112 x4)), (4467, .vec false 5 false x5), (4468, .box false 118 (PV.ar 118 x6)), (4469, .box false 112 (PV.ar 112 x7))])) v0 v1 v2 v3 v4 v5 v6 v7 v8) (by funext v0 v1 v2 v3 v4 v5 v6 v7 v8; exact lpE28_5 f k n v0 v1 v2 v3 v4 v5 v6 v7 v8))
def r28_5 (f : Nat) : List PV → List (Nat × Ent) → Kont → Option Res
  | [.ptr 4464 [], .ptr 4465 [], .ptr 4466 [], .ow 5 4467 [] 0 v0 none, .ptr 4468 [], .sc (.int .i64 v1), .ptr 4469 [],
  PV.sc
    (Value.int IntKind.i64
      v2)], [(4464, .box false 37 (PV.ar 37 v3)), (4465, .box false 118 (PV.ar 118 v4)), (4466, .box false 112 (PV.ar 112 v5)), (4467, .vec false 5 false v6),
  (4468, .box false 118 (PV.ar 118 v7)),
  (4469,
    Ent.box false 112
      (PV.ar 112
        v8))], k => lp28_5 f (fun x0 x1 x2 x3 x4 x5 x6 x7 => k (Ex.exit
  10) (fillS nx28_5 N28 [.ptr 4464 [], .ptr 4465 [], .ptr 4466 [], .ow 5 4467 [] 0 x0 none, .ptr 4468 [], .sc (.int .i64 x1),
  PV.ptr 4469
    []] [(4464, .box false 37 (PV.ar 37 x2)), (4465, .box false 118 (PV.ar 118 x3)), (4466, .box false 112 (PV.ar 112 x4)), (4467, .vec false 5 false x5),
  (4468, .box false 118 (PV.ar 118 x6)), (4469, .box false 112 (PV.ar 112 x7))])) f v0 v1 v2 v3 v4 v5 v6 v7 v8
  | _, _, _ => none
theorem it28_5 (f : Nat) : items c28_5 x28_5 = [] := by kernel_rfl
theorem i17_5 (f : Nat) : (Item.l c28_5 nm28_5 N28 (r28_5 f)).Ok tau Try.prog 0 := loop_item tabOk F28_ok mixed (x := x28_5) (nm2 := nx28_5) (anOk_items _ _ (by rw [it28_5 f]; intro q hq; cases hq)) fun vs hp k res hr => by
  unfold r28_5 at hr
  split at hr
  · exact ⟨f, 0, (lpE28_5 f _ f _ _ _ _ _ _ _ _ _ ).trans hr⟩
  · cases hr
def lpS28_6 (f : Nat) (rc : Nat → Int → Int → List PV → List PV → List PV → List PV → List PV → List PV → Option Res) (k0 : Nat → Int → List PV → List PV → List PV → List PV → List PV → Option Res) (v0 : Nat) (v1 : Int) (v2 : Int) (v3 : List PV) (v4 : List PV) (v5 : List PV) (v6 : List PV) (v7 : List PV) (v8 : List PV) : Option Res := bif decide (v2 < 8) then bif decide (0 ≤ v2) && decide (v2 < zi 8) && true then bif PV.isInt IntKind.u32 (getP (PV.ar 112 v5) [v2.toNat]) && true then bif decide (0 ≤ v2) && decide (v2 < zi 8) && true then bif PV.isInt IntKind.u32 (getP (PV.ar 112 v8) [v2.toNat]) && true then bif decide (0 ≤ v2) && decide (v2 < zi 8) && true then rc v0 v1 (IntKind.i64.wrap (v2 + 1)) v3 v4 (v5.set v2.toNat (.sc (.int .u32 (IntKind.u32.wrap ((getP (PV.ar 112 v5) [v2.toNat]).int + (getP (PV.ar 112 v8) [v2.toNat]).int))))) v6 v7 v8 else none else none else none else none else none else k0 v0 v1 v3 v4 v5 v6 v7
def lp28_6 (f : Nat) (k0 : Nat → Int → List PV → List PV → List PV → List PV → List PV → Option Res) : Nat → Nat → Int → Int → List PV → List PV → List PV → List PV → List PV → List PV → Option Res
  | 0, _, _, _, _, _, _, _, _, _ => none
  | n + 1, v0, v1, v2, v3, v4, v5, v6, v7, v8 => lpS28_6 f (lp28_6 f k0 n) k0 v0 v1 v2 v3 v4 v5 v6 v7 v8
theorem lpR28_6 (f : Nat) (k : Kont) (n : Nat) (v0 : Nat) (v1 : Int) (v2 : Int) (v3 : List PV) (v4 : List PV) (v5 : List PV) (v6 : List PV) (v7 : List PV) (v8 : List PV) : evLoop tau 0 nm28_6 (fun s k => ev tau F28 0 0 c28_6 (x28_6 ) s k) (n + 1) (fillS nm28_6 N28 [.ptr 4464 [], .ptr 4465 [], .ptr 4466 [], .ow 5 4467 [] 0 v0 none, .ptr 4468 [], .sc (.int .i64 v1), .ptr 4469 [], .sc (.int .i64 v2)] [(4464, .box false 37 (PV.ar 37 v3)), (4465, .box false 118 (PV.ar 118 v4)), (4466, .box false 112 (PV.ar 112 v5)), (4467, .vec false 5 false v6), (4468, .box false 118 (PV.ar 118 v7)), (4469, .box false 112 (PV.ar 112 v8))]) (kNorm tau 0 nx28_6 k) = lpS28_6 f (fun v0 v1 v2 v3 v4 v5 v6 v7 v8 => evLoop tau 0 nm28_6 (fun s k => ev tau F28 0 0 c28_6 (x28_6 ) s k) n (fillS nm28_6 N28 [.ptr 4464 [], .ptr 4465 [], .ptr 4466 [], .ow 5 4467 [] 0 v0 none, .ptr 4468 [], .sc (.int .i64 v1), .ptr 4469 [], .sc (.int .i64 v2)] [(4464, .box false 37 (PV.ar 37 v3)), (4465, .box false 118 (PV.ar 118 v4)), (4466, .box false 112 (PV.ar 112 v5)), (4467, .vec false 5 false v6), (4468, .box false 118 (PV.ar 118 v7)), (4469, .box false 112 (PV.ar 112 v8))]) (kNorm tau 0 nx28_6 k)) (fun x0 x1 x2 x3 x4 x5 x6 => k (Ex.exit 12) (fillS nx28_6 N28 [.ptr 4464 [], .ptr 4465 [], .ptr 4466 [], .ow 5 4467 [] 0 x0 none, .ptr 4468 [], .sc (.int .i64 x1)] [(4464, .box false 37 (PV.ar 37 x2)), (4465, .box false 118 (PV.ar 118 x3)), (4466, .box false 112 (PV.ar 112 x4)), (4467, .vec false 5 false x5), (4468, .box false 118 (PV.ar 118 x6))])) v0 v1 v2 v3 v4 v5 v6 v7 v8 := by kernel_rfl
theorem lpE28_6 (f : Nat) (k : Kont) : ∀ (n : Nat) (v0 : Nat) (v1 : Int) (v2 : Int) (v3 : List PV) (v4 : List PV) (v5 : List PV) (v6 : List PV) (v7 : List PV) (v8 : List PV), evLoop tau 0 nm28_6 (fun s k => ev tau F28 0 0 c28_6 (x28_6 ) s k) n (fillS nm28_6 N28 [.ptr 4464 [], .ptr 4465 [], .ptr 4466 [], .ow 5 4467 [] 0 v0 none, .ptr 4468 [], .sc (.int .i64 v1), .ptr 4469 [], .sc (.int .i64 v2)] [(4464, .box false 37 (PV.ar 37 v3)), (4465, .box false 118 (PV.ar 118 v4)), (4466, .box false 112 (PV.ar 112 v5)), (4467, .vec false 5 false v6), (4468, .box false 118 (PV.ar 118 v7)), (4469, .box false 112 (PV.ar 112 v8))]) (kNorm tau 0 nx28_6 k) = lp28_6 f (fun x0 x1 x2 x3 x4 x5 x6 => k (Ex.exit 12) (fillS nx28_6 N28 [.ptr 4464 [], .ptr 4465 [], .ptr 4466 [], .ow 5 4467 [] 0 x0 none, .ptr 4468 [], .sc (.int .i64 x1)] [(4464, .box false 37 (PV.ar 37 x2)), (4465, .box false 118 (PV.ar 118 x3)), (4466, .box false 112 (PV.ar 112 x4)), (4467, .vec false 5 false x5), (4468, .box false 118 (PV.ar 118 x6))])) n v0 v1 v2 v3 v4 v5 v6 v7 v8 | 0, _, _, _, _, _, _, _, _, _ => rfl | n + 1, v0, v1, v2, v3, v4, v5, v6, v7, v8 => (lpR28_6 f k n v0 v1 v2 v3 v4 v5 v6 v7 v8).trans (congrArg (fun r => lpS28_6 f r (fun x0 x1 x2 x3 x4 x5 x6 => k (Ex.exit 12) (fillS nx28_6 N28 [.ptr 4464 [], .ptr 4465 [], .ptr 4466 [], .ow 5 4467 [] 0 x0 none, .ptr 4468 [], .sc (.int .i64 x1)] [(4464, .box false 37 (PV.ar 37 x2)), (4465, .box false 118 (PV.ar 118 x3)), (4466, .box false 112 (PV.ar 112 x4)), (4467, .vec false 5 false x5), (4468, .box false 118 (PV.ar 118 x6))])) v0 v1 v2 v3 v4 v5 v6 v7 v8) (by funext v0 v1 v2 v3 v4 v5 v6 v7 v8; exact lpE28_6 f k n v0 v1 v2 v3 v4 v5 v6 v7 v8))
def r28_6 (f : Nat) : List PV → List (Nat × Ent) → Kont → Option Res
  | [.ptr 4464 [], .ptr 4465 [], .ptr 4466 [], .ow 5 4467 [] 0 v0 none, .ptr 4468 [], .sc (.int .i64 v1), .ptr 4469 [],
  PV.sc
    (Value.int IntKind.i64
      v2)], [(4464, .box false 37 (PV.ar 37 v3)), (4465, .box false 118 (PV.ar 118 v4)), (4466, .box false 112 (PV.ar 112 v5)), (4467, .vec false 5 false v6),
  (4468, .box false 118 (PV.ar 118 v7)),
  (4469,
    Ent.box false 112
      (PV.ar 112
        v8))], k => lp28_6 f (fun x0 x1 x2 x3 x4 x5 x6 => k (Ex.exit
  12) (fillS nx28_6 N28 [.ptr 4464 [], .ptr 4465 [], .ptr 4466 [], .ow 5 4467 [] 0 x0 none, .ptr 4468 [],
  PV.sc
    (Value.int IntKind.i64
      x1)] [(4464, .box false 37 (PV.ar 37 x2)), (4465, .box false 118 (PV.ar 118 x3)), (4466, .box false 112 (PV.ar 112 x4)), (4467, .vec false 5 false x5),
  (4468, .box false 118 (PV.ar 118 x6))])) f v0 v1 v2 v3 v4 v5 v6 v7 v8
  | _, _, _ => none
theorem it28_6 (f : Nat) : items c28_6 x28_6 = [] := by kernel_rfl
theorem i17_6 (f : Nat) : (Item.l c28_6 nm28_6 N28 (r28_6 f)).Ok tau Try.prog 0 := loop_item tabOk F28_ok mixed (x := x28_6) (nm2 := nx28_6) (anOk_items _ _ (by rw [it28_6 f]; intro q hq; cases hq)) fun vs hp k res hr => by
  unfold r28_6 at hr
  split at hr
  · exact ⟨f, 0, (lpE28_6 f _ f _ _ _ _ _ _ _ _ _ ).trans hr⟩
  · cases hr
def lpS28_2 (f : Nat) (rc : Nat → Int → List PV → List PV → List PV → List PV → List PV → Option Res) (k0 : List PV → List PV → Option Res) (v0 : Nat) (v1 : Int) (v2 : List PV) (v3 : List PV) (v4 : List PV) (v5 : List PV) (v6 : List PV) : Option Res := bif decide (v1 < zi v0) then lp28_3 f (fun x0_2 x1_2 x2_2 x3_2 x4_2 x5_2 x6_2 => lp28_4 f (fun x0_3 x1_3 x2_3 x3_3 x4_3 x5_3 x6_3 => lp28_5 f (fun x0_4 x1_4 x2_4 x3_4 x4_4 x5_4 x6_4 x7_4 => lp28_6 f (fun x0_5 x1_5 x2_5 x3_5 x4_5 x5_5 x6_5 => rc x0_5 (IntKind.i64.wrap (x1_5 + 64)) x2_5 x3_5 x4_5 x5_5 x6_5) f x0_4 x1_4 (0) x2_4 x3_4 x4_4 x5_4 x6_4 x7_4) f x0_3 x1_3 (0) x2_3 x3_3 x4_3 x5_3 x6_3 x4_3) f x0_2 x1_2 (16) x2_2 x3_2 x4_2 x5_2 x6_2) f v0 v1 (0) v2 v3 v4 v5 v6 else k0 v2 v4
def lp28_2 (f : Nat) (k0 : List PV → List PV → Option Res) : Nat → Nat → Int → List PV → List PV → List PV → List PV → List PV → Option Res
  | 0, _, _, _, _, _, _, _ => none
  | n + 1, v0, v1, v2, v3, v4, v5, v6 => lpS28_2 f (lp28_2 f k0 n) k0 v0 v1 v2 v3 v4 v5 v6
theorem lpR28_2 (f : Nat) (k : Kont) (n : Nat) (v0 : Nat) (v1 : Int) (v2 : List PV) (v3 : List PV) (v4 : List PV) (v5 : List PV) (v6 : List PV) : evLoop tau 0 nm28_2 (fun s k => ev tau F28 0 0 c28_2 (x28_2 (r28_3 f) (r28_4 f) (r28_5 f) (r28_6 f)) s k) (n + 1) (fillS nm28_2 N28 [.ptr 4464 [], .ptr 4465 [], .ptr 4466 [], .ow 5 4467 [] 0 v0 none, .ptr 4468 [], .sc (.int .i64 v1)] [(4464, .box false 37 (PV.ar 37 v2)), (4465, .box false 118 (PV.ar 118 v3)), (4466, .box false 112 (PV.ar 112 v4)), (4467, .vec false 5 false v5), (4468, .box false 118 (PV.ar 118 v6))]) (kNorm tau 0 nx28_2 k) = lpS28_2 f (fun v0 v1 v2 v3 v4 v5 v6 => evLoop tau 0 nm28_2 (fun s k => ev tau F28 0 0 c28_2 (x28_2 (r28_3 f) (r28_4 f) (r28_5 f) (r28_6 f)) s k) n (fillS nm28_2 N28 [.ptr 4464 [], .ptr 4465 [], .ptr 4466 [], .ow 5 4467 [] 0 v0 none, .ptr 4468 [], .sc (.int .i64 v1)] [(4464, .box false 37 (PV.ar 37 v2)), (4465, .box false 118 (PV.ar 118 v3)), (4466, .box false 112 (PV.ar 112 v4)), (4467, .vec false 5 false v5), (4468, .box false 118 (PV.ar 118 v6))]) (kNorm tau 0 nx28_2 k)) (fun x0 x1 => k (Ex.exit 4) (fillS nx28_2 N28 [.ptr 4464 [], .ptr 4465 []] [(4464, .box false 37 (PV.ar 37 x0)), (4465, .box false 112 (PV.ar 112 x1))])) v0 v1 v2 v3 v4 v5 v6 := by kernel_rfl
theorem lpE28_2 (f : Nat) (k : Kont) : ∀ (n : Nat) (v0 : Nat) (v1 : Int) (v2 : List PV) (v3 : List PV) (v4 : List PV) (v5 : List PV) (v6 : List PV), evLoop tau 0 nm28_2 (fun s k => ev tau F28 0 0 c28_2 (x28_2 (r28_3 f) (r28_4 f) (r28_5 f) (r28_6 f)) s k) n (fillS nm28_2 N28 [.ptr 4464 [], .ptr 4465 [], .ptr 4466 [], .ow 5 4467 [] 0 v0 none, .ptr 4468 [], .sc (.int .i64 v1)] [(4464, .box false 37 (PV.ar 37 v2)), (4465, .box false 118 (PV.ar 118 v3)), (4466, .box false 112 (PV.ar 112 v4)), (4467, .vec false 5 false v5), (4468, .box false 118 (PV.ar 118 v6))]) (kNorm tau 0 nx28_2 k) = lp28_2 f (fun x0 x1 => k (Ex.exit 4) (fillS nx28_2 N28 [.ptr 4464 [], .ptr 4465 []] [(4464, .box false 37 (PV.ar 37 x0)), (4465, .box false 112 (PV.ar 112 x1))])) n v0 v1 v2 v3 v4 v5 v6 | 0, _, _, _, _, _, _, _ => rfl | n + 1, v0, v1, v2, v3, v4, v5, v6 => (lpR28_2 f k n v0 v1 v2 v3 v4 v5 v6).trans (congrArg (fun r => lpS28_2 f r (fun x0 x1 => k (Ex.exit 4) (fillS nx28_2 N28 [.ptr 4464 [], .ptr 4465 []] [(4464, .box false 37 (PV.ar 37 x0)), (4465, .box false 112 (PV.ar 112 x1))])) v0 v1 v2 v3 v4 v5 v6) (by funext v0 v1 v2 v3 v4 v5 v6; exact lpE28_2 f k n v0 v1 v2 v3 v4 v5 v6))
def r28_2 (f : Nat) : List PV → List (Nat × Ent) → Kont → Option Res
  | [.ptr 4464 [], .ptr 4465 [], .ptr 4466 [], .ow 5 4467 [] 0 v0 none, .ptr 4468 [],
  PV.sc
    (Value.int IntKind.i64
      v1)], [(4464, .box false 37 (PV.ar 37 v2)), (4465, .box false 118 (PV.ar 118 v3)), (4466, .box false 112 (PV.ar 112 v4)), (4467, .vec false 5 false v5),
  (4468,
    Ent.box false 118
      (PV.ar 118
        v6))], k => lp28_2 f (fun x0 x1 => k (Ex.exit
  4) (fillS nx28_2 N28 [.ptr 4464 [], .ptr 4465 []] [(4464, .box false 37 (PV.ar 37 x0)), (4465, .box false 112 (PV.ar 112 x1))])) f v0 v1 v2 v3 v4 v5 v6
  | _, _, _ => none
theorem it28_2 (f : Nat) : items c28_2 (x28_2 (r28_3 f) (r28_4 f) (r28_5 f) (r28_6 f)) = [.l c28_3 nm28_3 N28 (r28_3 f), .l c28_4 nm28_4 N28 (r28_4 f), .l c28_5 nm28_5 N28 (r28_5 f), .l c28_6 nm28_6 N28 (r28_6 f)] := by kernel_rfl
theorem i17_2 (f : Nat) : (Item.l c28_2 nm28_2 N28 (r28_2 f)).Ok tau Try.prog 0 := loop_item tabOk F28_ok mixed (x := (x28_2 (r28_3 f) (r28_4 f) (r28_5 f) (r28_6 f))) (nm2 := nx28_2) (anOk_items _ _ (by rw [it28_2 f]; simp only [List.forall_mem_cons, List.not_mem_nil, false_implies, implies_true, and_true]; exact ⟨i17_3 f, i17_4 f, i17_5 f, i17_6 f⟩)) fun vs hp k res hr => by
  unfold r28_2 at hr
  split at hr
  · exact ⟨f, 0, (lpE28_2 f _ f _ _ _ _ _ _ _ ).trans hr⟩
  · cases hr
def lpS28_7 (f : Nat) (rc : Int → List PV → List PV → List PV → Option Res) (k0 : List PV → List PV → Option Res) (v0 : Int) (v1 : List PV) (v2 : List PV) (v3 : List PV) : Option Res := bif decide (v0 < 8) then bif decide (0 ≤ v0) && decide (v0 < zi 8) && true then bif PV.isInt IntKind.u32 (getP (PV.ar 112 v2) [v0.toNat]) && true then bif decide (0 ≤ v0) && decide (v0 < zi 8) && true then bif PV.isInt IntKind.u32 (getP (PV.ar 112 v2) [v0.toNat]) && true then bif decide (0 ≤ v0) && decide (v0 < zi 8) && true then bif PV.isInt IntKind.u32 (getP (PV.ar 112 v2) [v0.toNat]) && true then bif decide (0 ≤ v0) && decide (v0 < zi 8) && true then bif PV.isInt IntKind.u32 (getP (PV.ar 112 v2) [v0.toNat]) && true then bif decide (0 ≤ IntKind.i64.wrap (4 * v0)) && decide (IntKind.i64.wrap (4 * v0) < zi 32) && true then bif decide (0 ≤ IntKind.i64.wrap (IntKind.i64.wrap (4 * v0) + 1)) && decide (IntKind.i64.wrap (IntKind.i64.wrap (4 * v0) + 1) < zi 32) && true then bif decide (0 ≤ IntKind.i64.wrap (IntKind.i64.wrap (4 * v0) + 2)) && decide (IntKind.i64.wrap (IntKind.i64.wrap (4 * v0) + 2) < zi 32) && true then bif decide (0 ≤ IntKind.i64.wrap (IntKind.i64.wrap (4 * v0) + 3)) && decide (IntKind.i64.wrap (IntKind.i64.wrap (4 * v0) + 3) < zi 32) && true then rc (IntKind.i64.wrap (v0 + 1)) v1 v2 ((((v3.set (IntKind.i64.wrap (4 * v0)).toNat (.sc (.int .u8 (IntKind.u8.wrap (shrI IntKind.u32 (getP (PV.ar 112 v2) [v0.toNat]).int 24))))).set (IntKind.i64.wrap (IntKind.i64.wrap (4 * v0) + 1)).toNat (.sc (.int .u8 (IntKind.u8.wrap (shrI IntKind.u32 (getP (PV.ar 112 v2) [v0.toNat]).int 16))))).set (IntKind.i64.wrap (IntKind.i64.wrap (4 * v0) + 2)).toNat (.sc (.int .u8 (IntKind.u8.wrap (shrI IntKind.u32 (getP (PV.ar 112 v2) [v0.toNat]).int 8))))).set (IntKind.i64.wrap (IntKind.i64.wrap (4 * v0) + 3)).toNat (.sc (.int .u8 (IntKind.u8.wrap (getP (PV.ar 112 v2) [v0.toNat]).int)))) else none else none else none else none else none else none else none else none else none else none else none else none else k0 v1 v3
def lp28_7 (f : Nat) (k0 : List PV → List PV → Option Res) : Nat → Int → List PV → List PV → List PV → Option Res
  | 0, _, _, _, _ => none
  | n + 1, v0, v1, v2, v3 => lpS28_7 f (lp28_7 f k0 n) k0 v0 v1 v2 v3
theorem lpR28_7 (f : Nat) (k : Kont) (n : Nat) (v0 : Int) (v1 : List PV) (v2 : List PV) (v3 : List PV) : evLoop tau 0 nm28_7 (fun s k => ev tau F28 0 0 c28_7 (x28_7 ) s k) (n + 1) (fillS nm28_7 N28 [.ptr 4464 [], .ptr 4465 [], .ptr 4466 [], .sc (.int .i64 v0)] [(4464, .box false 37 (PV.ar 37 v1)), (4465, .box false 112 (PV.ar 112 v2)), (4466, .box false 37 (PV.ar 37 v3))]) (kNorm tau 0 nx28_7 k) = lpS28_7 f (fun v0 v1 v2 v3 => evLoop tau 0 nm28_7 (fun s k => ev tau F28 0 0 c28_7 (x28_7 ) s k) n (fillS nm28_7 N28 [.ptr 4464 [], .ptr 4465 [], .ptr 4466 [], .sc (.int .i64 v0)] [(4464, .box false 37 (PV.ar 37 v1)), (4465, .box false 112 (PV.ar 112 v2)), (4466, .box false 37 (PV.ar 37 v3))]) (kNorm tau 0 nx28_7 k)) (fun x0 x1 => k (Ex.exit 14) (fillS nx28_7 N28 [.ptr 4464 [], .ptr 4465 []] [(4464, .box false 37 (PV.ar 37 x0)), (4465, .box false 37 (PV.ar 37 x1))])) v0 v1 v2 v3 := by kernel_rfl
theorem lpE28_7 (f : Nat) (k : Kont) : ∀ (n : Nat) (v0 : Int) (v1 : List PV) (v2 : List PV) (v3 : List PV), evLoop tau 0 nm28_7 (fun s k => ev tau F28 0 0 c28_7 (x28_7 ) s k) n (fillS nm28_7 N28 [.ptr 4464 [], .ptr 4465 [], .ptr 4466 [], .sc (.int .i64 v0)] [(4464, .box false 37 (PV.ar 37 v1)), (4465, .box false 112 (PV.ar 112 v2)), (4466, .box false 37 (PV.ar 37 v3))]) (kNorm tau 0 nx28_7 k) = lp28_7 f (fun x0 x1 => k (Ex.exit 14) (fillS nx28_7 N28 [.ptr 4464 [], .ptr 4465 []] [(4464, .box false 37 (PV.ar 37 x0)), (4465, .box false 37 (PV.ar 37 x1))])) n v0 v1 v2 v3 | 0, _, _, _, _ => rfl | n + 1, v0, v1, v2, v3 => (lpR28_7 f k n v0 v1 v2 v3).trans (congrArg (fun r => lpS28_7 f r (fun x0 x1 => k (Ex.exit 14) (fillS nx28_7 N28 [.ptr 4464 [], .ptr 4465 []] [(4464, .box false 37 (PV.ar 37 x0)), (4465, .box false 37 (PV.ar 37 x1))])) v0 v1 v2 v3) (by funext v0 v1 v2 v3; exact lpE28_7 f k n v0 v1 v2 v3))
def r28_7 (f : Nat) : List PV → List (Nat × Ent) → Kont → Option Res
  | [.ptr 4464 [], .ptr 4465 [], .ptr 4466 [],
  PV.sc
    (Value.int IntKind.i64
      v0)], [(4464, .box false 37 (PV.ar 37 v1)), (4465, .box false 112 (PV.ar 112 v2)),
  (4466,
    Ent.box false 37
      (PV.ar 37
        v3))], k => lp28_7 f (fun x0 x1 => k (Ex.exit
  14) (fillS nx28_7 N28 [.ptr 4464 [], .ptr 4465 []] [(4464, .box false 37 (PV.ar 37 x0)), (4465, .box false 37 (PV.ar 37 x1))])) f v0 v1 v2 v3
  | _, _, _ => none
theorem it28_7 (f : Nat) : items c28_7 x28_7 = [] := by kernel_rfl
theorem i17_7 (f : Nat) : (Item.l c28_7 nm28_7 N28 (r28_7 f)).Ok tau Try.prog 0 := loop_item tabOk F28_ok mixed (x := x28_7) (nm2 := nx28_7) (anOk_items _ _ (by rw [it28_7 f]; intro q hq; cases hq)) fun vs hp k res hr => by
  unfold r28_7 at hr
  split at hr
  · exact ⟨f, 0, (lpE28_7 f _ f _ _ _ _ ).trans hr⟩
  · cases hr
def g28 (f : Nat) (nl : Bool) (fl : Bool) (b : List PV) (k : Res → Option Res) : Option Res := bif roomy (0 + b.length) 1 && true then bif roomy (0 + b.length + 1) 1 && true then lp28_0 f (fun x0_0 x1_0 x2_0 x3_0 x4_0 x5_0 x6_0 x7_0 => lp28_1 f (fun x0_1 x1_1 x2_1 x3_1 x4_1 => lp28_2 f (fun x0_6 x1_6 => lp28_7 f (fun x0_7 x1_7 => k (Res.mk (.ar 37 x1_7) [] [])) f (0) x0_6 x1_6 ([.sc (.int .u8 0), .sc (.int .u8 0), .sc (.int .u8 0), .sc (.int .u8 0), .sc (.int .u8 0), .sc (.int .u8 0), .sc (.int .u8 0), .sc (.int .u8 0), .sc (.int .u8 0), .sc (.int .u8 0), .sc (.int .u8 0), .sc (.int .u8 0), .sc (.int .u8 0), .sc (.int .u8 0), .sc (.int .u8 0), .sc (.int .u8 0), .sc (.int .u8 0), .sc (.int .u8 0), .sc (.int .u8 0), .sc (.int .u8 0), .sc (.int .u8 0), .sc (.int .u8 0), .sc (.int .u8 0), .sc (.int .u8 0), .sc (.int .u8 0), .sc (.int .u8 0), .sc (.int .u8 0), .sc (.int .u8 0), .sc (.int .u8 0), .sc (.int .u8 0), .sc (.int .u8 0), .sc (.int .u8 0)])) f x0_1 (0) x1_1 x2_1 x3_1 x4_1 ([.sc (.int .u32 0), .sc (.int .u32 0), .sc (.int .u32 0), .sc (.int .u32 0), .sc (.int .u32 0), .sc (.int .u32 0), .sc (.int .u32 0), .sc (.int .u32 0), .sc (.int .u32 0), .sc (.int .u32 0), .sc (.int .u32 0), .sc (.int .u32 0), .sc (.int .u32 0), .sc (.int .u32 0), .sc (.int .u32 0), .sc (.int .u32 0), .sc (.int .u32 0), .sc (.int .u32 0), .sc (.int .u32 0), .sc (.int .u32 0), .sc (.int .u32 0), .sc (.int .u32 0), .sc (.int .u32 0), .sc (.int .u32 0), .sc (.int .u32 0), .sc (.int .u32 0), .sc (.int .u32 0), .sc (.int .u32 0), .sc (.int .u32 0), .sc (.int .u32 0), .sc (.int .u32 0), .sc (.int .u32 0), .sc (.int .u32 0), .sc (.int .u32 0), .sc (.int .u32 0), .sc (.int .u32 0), .sc (.int .u32 0), .sc (.int .u32 0), .sc (.int .u32 0), .sc (.int .u32 0), .sc (.int .u32 0), .sc (.int .u32 0), .sc (.int .u32 0), .sc (.int .u32 0), .sc (.int .u32 0), .sc (.int .u32 0), .sc (.int .u32 0), .sc (.int .u32 0), .sc (.int .u32 0), .sc (.int .u32 0), .sc (.int .u32 0), .sc (.int .u32 0), .sc (.int .u32 0), .sc (.int .u32 0), .sc (.int .u32 0), .sc (.int .u32 0), .sc (.int .u32 0), .sc (.int .u32 0), .sc (.int .u32 0), .sc (.int .u32 0), .sc (.int .u32 0), .sc (.int .u32 0), .sc (.int .u32 0), .sc (.int .u32 0)])) f x3_0 (IntKind.u64.wrap (IntKind.u64.wrap (zi x2_0.length) * 8)) (7) x4_0 x5_0 x6_0 x7_0) f nl fl b (0 + b.length + 1) ([.sc (.int .u8 0), .sc (.int .u8 0), .sc (.int .u8 0), .sc (.int .u8 0), .sc (.int .u8 0), .sc (.int .u8 0), .sc (.int .u8 0), .sc (.int .u8 0), .sc (.int .u8 0), .sc (.int .u8 0), .sc (.int .u8 0), .sc (.int .u8 0), .sc (.int .u8 0), .sc (.int .u8 0), .sc (.int .u8 0), .sc (.int .u8 0), .sc (.int .u8 0), .sc (.int .u8 0), .sc (.int .u8 0), .sc (.int .u8 0), .sc (.int .u8 0), .sc (.int .u8 0), .sc (.int .u8 0), .sc (.int .u8 0), .sc (.int .u8 0), .sc (.int .u8 0), .sc (.int .u8 0), .sc (.int .u8 0), .sc (.int .u8 0), .sc (.int .u8 0), .sc (.int .u8 0), .sc (.int .u8 0)]) ([.sc (.int .u32 1116352408), .sc (.int .u32 1899447441), .sc (.int .u32 3049323471), .sc (.int .u32 3921009573), .sc (.int .u32 961987163), .sc (.int .u32 1508970993), .sc (.int .u32 2453635748), .sc (.int .u32 2870763221), .sc (.int .u32 3624381080), .sc (.int .u32 310598401), .sc (.int .u32 607225278), .sc (.int .u32 1426881987), .sc (.int .u32 1925078388), .sc (.int .u32 2162078206), .sc (.int .u32 2614888103), .sc (.int .u32 3248222580), .sc (.int .u32 3835390401), .sc (.int .u32 4022224774), .sc (.int .u32 264347078), .sc (.int .u32 604807628), .sc (.int .u32 770255983), .sc (.int .u32 1249150122), .sc (.int .u32 1555081692), .sc (.int .u32 1996064986), .sc (.int .u32 2554220882), .sc (.int .u32 2821834349), .sc (.int .u32 2952996808), .sc (.int .u32 3210313671), .sc (.int .u32 3336571891), .sc (.int .u32 3584528711), .sc (.int .u32 113926993), .sc (.int .u32 338241895), .sc (.int .u32 666307205), .sc (.int .u32 773529912), .sc (.int .u32 1294757372), .sc (.int .u32 1396182291), .sc (.int .u32 1695183700), .sc (.int .u32 1986661051), .sc (.int .u32 2177026350), .sc (.int .u32 2456956037), .sc (.int .u32 2730485921), .sc (.int .u32 2820302411), .sc (.int .u32 3259730800), .sc (.int .u32 3345764771), .sc (.int .u32 3516065817), .sc (.int .u32 3600352804), .sc (.int .u32 4094571909), .sc (.int .u32 275423344), .sc (.int .u32 430227734), .sc (.int .u32 506948616), .sc (.int .u32 659060556), .sc (.int .u32 883997877), .sc (.int .u32 958139571), .sc (.int .u32 1322822218), .sc (.int .u32 1537002063), .sc (.int .u32 1747873779), .sc (.int .u32 1955562222), .sc (.int .u32 2024104815), .sc (.int .u32 2227730452), .sc (.int .u32 2361852424), .sc (.int .u32 2428436474), .sc (.int .u32 2756734187), .sc (.int .u32 3204031479), .sc (.int .u32 3329325298)]) ([.sc (.int .u32 1779033703), .sc (.int .u32 3144134277), .sc (.int .u32 1013904242), .sc (.int .u32 2773480762), .sc (.int .u32 1359893119), .sc (.int .u32 2600822924), .sc (.int .u32 528734635), .sc (.int .u32 1541459225)]) (List.take (0 + b.length) ([] ++ b) ++ [.sc (.int .u8 128)]) else none else none
theorem e28 (f : Nat) (nl : Bool) (fl : Bool) (b : List PV) (k : Res → Option Res) : evFn tau F28 Try.f28 (Try.f28.body.get!) (an28 (r28_0 f) (r28_1 f) (r28_2 f) (r28_7 f)) [] 0 [.ro 5 nl fl b] [] k = g28 f nl fl b k := by kernel_rfl
theorem it28 (f : Nat) : items (Try.f28.body.get!) (an28 (r28_0 f) (r28_1 f) (r28_2 f) (r28_7 f)) = [.l c28_0 nm28_0 N28 (r28_0 f), .l c28_1 nm28_1 N28 (r28_1 f), .l c28_2 nm28_2 N28 (r28_2 f), .l c28_7 nm28_7 N28 (r28_7 f)] := by kernel_rfl
theorem ia28 (f : Nat) : ∀ q ∈ items (Try.f28.body.get!) (an28 (r28_0 f) (r28_1 f) (r28_2 f) (r28_7 f)), q.Ok tau Try.prog 0 := by
  rw [it28 f]; simp only [List.forall_mem_cons, List.not_mem_nil, false_implies, implies_true, and_true]; exact ⟨i17_0 f, i17_1 f, i17_2 f, i17_7 f⟩
theorem fo28 : Try.prog.funcs[28]? = some Try.f28 := by kernel_rfl
theorem bo28 : Try.f28.body = some (Try.f28.body.get!) := by kernel_rfl
theorem en28 : Enters Try.prog 28 := enters_of fo28 (by kernel_rfl) bo28
end Go.Proofs.Ytcklhipdldpkhaa.Rx

-- FN ref2.Sum
namespace Go.Proofs.Ytcklhipdldpkhaa.Rx
open Go
set_option linter.unusedVariables false
set_option maxRecDepth 100000
set_option maxHeartbeats 1000000
theorem getP_nil (v : PV) : getP v [] = v := rfl
theorem getD8' {R : List Int} (h : R.length = 8) (j : Nat) (hj : j < 8) : (pu .u32 R).getD j .top = .sc (.int .u32 (R.getD j 0)) := pu_get (by omega)
theorem m28_0 (f : Nat) (a b : Bool) (c x y w : List PV) (k0 : Bool → Bool → List PV → Nat → List PV → List PV → List PV → List PV → Option Res) : ∀ (d n : Nat) (L : List Int), zs L.length = d → d < n → L.length + d ≤ 140737488355200 →
    lp28_0 f k0 n a b c L.length x y w (pu .u8 L) = k0 a b c (L.length + d) x y w (pu .u8 (L ++ List.replicate d 0))
  | 0, n + 1, L, hd, hn, hL => by
      simp only [lp28_0, lpS28_0, tmod64]
      refine (bif_f (by simp [zs] at hd ⊢; omega)).trans ?_
      simp
  | d + 1, n + 1, L, hd, hn, hL => by
      have hlt : d + 1 < 64 := by rw [← hd]; unfold zs; omega
      have c3 : roomy (L.length + 1) 1 = true := by simp [roomy]; omega
      simp only [lp28_0, lpS28_0, tmod64, c3, Bool.and_true, cond_true, pu_take]
      refine (bif_t (by simp [zs] at hd ⊢; omega)).trans ?_
      rw [List.take_of_length_le (Nat.le_refl _)]
      have := m28_0 f a b c x y w k0 d n (L ++ [0]) (by simp [zs] at hd ⊢; omega) (by omega) (by simp; omega)
      simp only [List.length_append, List.length_cons, List.length_nil, Nat.zero_add, pu_append] at this
      refine this.trans ?_
      rw [show L.length + 1 + d = L.length + (d + 1) from by omega, List.replicate_succ]
      simp
def lenR (N : Int) (i : Nat) : Int := IntKind.u8.wrap (shrI .u64 N (56 - 8 * (i : Int)))
theorem m28_1 (f : Nat) (N : Int) (x y w : List PV) (k0 : Nat → List PV → List PV → List PV → List PV → Option Res) (L : List Int) (hL : L.length ≤ 140737488355300) : ∀ (d i n : Nat), i + d = 8 → d < n →
    lp28_1 f k0 n (L.length + i) N (7 - (i : Int)) x y w (pu .u8 (L ++ (List.range i).map (lenR N))) = k0 (L.length + 8) x y w (pu .u8 (L ++ (List.range 8).map (lenR N)))
  | 0, i, n + 1, h, hn => by
      obtain rfl : i = 8 := by omega
      simp only [lp28_1, lpS28_1]
      exact bif_f (by decide)
  | d + 1, i, n + 1, h, hn => by
      have h1 : IntKind.i64.wrap (7 - (i : Int) - 1) = 7 - ((i + 1 : Nat) : Int) := by rw [wrap_i64 (by omega) (by omega)]; omega
      have h8 : IntKind.u64.wrap (7 - (i : Int)) = 7 - (i : Int) := by rw [wrap_u64_eq]; omega
      have h9 : IntKind.u64.wrap (8 * (7 - (i : Int))) = 56 - 8 * (i : Int) := by rw [wrap_u64_eq]; omega
      have c1 : decide (7 - (i : Int) ≥ 0) = true := by simp; omega
      have c2 : decide (0 ≤ 56 - 8 * (i : Int)) = true := by simp; omega
      have c3 : roomy (L.length + i + 1) 1 = true := by simp [roomy]; omega
      have hlen : (L ++ (List.range i).map (lenR N)).length = L.length + i := by simp
      simp only [lp28_1, lpS28_1, h1, h8, h9, c1, c2, c3, Bool.and_true, cond_true, pu_take]
      rw [List.take_of_length_le (by omega)]
      have := m28_1 f N x y w k0 L hL d (i + 1) n (by omega) (by omega)
      rw [List.range_succ, List.map_append, ← List.append_assoc, pu_append] at this
      exact this
theorem blk_get (P : List Int) (q j : Nat) (hj : j < 64) : ((P.drop (64 * q)).take 64).getD j 0 = P.getD (64 * q + j) 0 := by
  simp [List.getD_eq_getElem?_getD, hj, List.getElem?_drop]
theorem m28_3 (P : List Int) (q : Nat) (hq : 64 * q + 64 ≤ P.length) (hP : P.length ≤ 140737488356000) (T : List Int) (hT : T.length = 64) (f : Nat) (x y w : List PV) (k0 : Nat → Int → List PV → List PV → List PV → List PV → List PV → Option Res) : ∀ (d i n : Nat), i + d = 16 → d < n →
    lp28_3 f k0 n P.length ((64 * q : Nat) : Int) (i : Int) x y w (pu .u8 P) (pu .u32 (fillM (word ((P.drop (64 * q)).take 64)) T i)) = k0 P.length ((64 * q : Nat) : Int) x y w (pu .u8 P) (pu .u32 (fillM (word ((P.drop (64 * q)).take 64)) T 16))
  | 0, i, n + 1, h, hn => by
      obtain rfl : i = 16 := by omega
      simp only [lp28_3, lpS28_3]
      exact bif_f (by decide)
  | d + 1, i, n + 1, h, hn => by
      have h4 : IntKind.i64.wrap (4 * (i : Int)) = ((4 * i : Nat) : Int) := by rw [wrap_i64 (by omega) (by omega)]; omega
      have h40 : IntKind.i64.wrap (((64 * q : Nat) : Int) + ((4 * i : Nat) : Int)) = ((64 * q + 4 * i : Nat) : Int) := by rw [wrap_i64 (by omega) (by omega)]; omega
      have h41 : IntKind.i64.wrap (((64 * q + 4 * i : Nat) : Int) + 1) = ((64 * q + (4 * i + 1) : Nat) : Int) := by rw [wrap_i64 (by omega) (by omega)]; omega
      have h42 : IntKind.i64.wrap (((64 * q + 4 * i : Nat) : Int) + 2) = ((64 * q + (4 * i + 2) : Nat) : Int) := by rw [wrap_i64 (by omega) (by omega)]; omega
      have h43 : IntKind.i64.wrap (((64 * q + 4 * i : Nat) : Int) + 3) = ((64 * q + (4 * i + 3) : Nat) : Int) := by rw [wrap_i64 (by omega) (by omega)]; omega
      have h5 : IntKind.i64.wrap ((i : Int) + 1) = ((i + 1 : Nat) : Int) := by rw [wrap_i64 (by omega) (by omega)]; omega
      simp only [lp28_3, lpS28_3, h4, h40, h41, h42, h43, h5, Int.toNat_natCast, Nat.zero_add, getP_nil, zi]
      rw [pu_isInt (by omega), pu_isInt (by omega), pu_isInt (by omega), pu_isInt (by omega), pu_int (by omega), pu_int (by omega), pu_int (by omega), pu_int (by omega), pu_set]
      refine (bif_t (by simp; omega)).trans ?_
      refine (bif_t (by simp only [Bool.and_true, Bool.and_eq_true, decide_eq_true_eq]; omega)).trans ?_
      refine (bif_t rfl).trans ?_
      refine (bif_t (by simp only [Bool.and_true, Bool.and_eq_true, decide_eq_true_eq]; omega)).trans ?_
      refine (bif_t rfl).trans ?_
      refine (bif_t (by simp only [Bool.and_true, Bool.and_eq_true, decide_eq_true_eq]; omega)).trans ?_
      refine (bif_t rfl).trans ?_
      refine (bif_t (by simp only [Bool.and_true, Bool.and_eq_true, decide_eq_true_eq]; omega)).trans ?_
      refine (bif_t rfl).trans ?_
      refine (bif_t (by simp only [Bool.and_true, Bool.and_eq_true, decide_eq_true_eq]; omega)).trans ?_
      have := m28_3 P q hq hP T hT f x y w k0 d (i + 1) n (by omega) (by omega)
      rw [← fillM_set _ T i (by omega), word, blk_get P q _ (by omega), blk_get P q _ (by omega), blk_get P q _ (by omega), blk_get P q _ (by omega)] at this
      exact this
def fillT (bs T : List Int) (i : Nat) : List Int := sched bs i ++ T.drop (16 + i)
theorem fillT_length (bs T : List Int) (hT : T.length = 64) (i : Nat) (h : i ≤ 48) : (fillT bs T i).length = 64 := by simp [fillT, sched_length, hT]; omega
theorem fillT_get (bs T : List Int) (i j : Nat) (h : j < 16 + i) : (fillT bs T i).getD j 0 = (sched bs i).getD j 0 := by
  simp only [fillT, List.getD_eq_getElem?_getD]
  rw [List.getElem?_append_left (by rw [sched_length]; exact h)]
theorem fillT_set (bs T : List Int) (hT : T.length = 64) (i : Nat) (h : i < 48) (x : Int) : (fillT bs T i).set (i + 16) x = (sched bs i ++ [x]) ++ T.drop (16 + (i + 1)) := by
  rw [fillT, List.set_append_right _ _ (by rw [sched_length]; omega), sched_length, List.drop_eq_getElem_cons (by omega), show i + 16 - (16 + i) = 0 from by omega, List.set_cons_zero]
  simp [Nat.add_assoc]
theorem nxtW_eq (w16 w15 w7 w2 : Int) : ww (ww (ww (sg1 w2 + w7) + sg0 w15) + w16) = nxtW w16 w15 w7 w2 := by
  simp only [nxtW, ww, wrap_u32_eq]; omega
theorem m28_4 (bs T : List Int) (hT : T.length = 64) (f : Nat) (l : Nat) (p : Int) (x y w e : List PV) (k0 : Nat → Int → List PV → List PV → List PV → List PV → List PV → Option Res) : ∀ (d i n : Nat), i + d = 48 → d < n →
    lp28_4 f k0 n l p ((i + 16 : Nat) : Int) x y w e (pu .u32 (fillT bs T i)) = k0 l p x y w e (pu .u32 (spreadP bs))
  | 0, i, n + 1, h, hn => by
      obtain rfl : i = 48 := by omega
      simp only [lp28_4, lpS28_4]
      refine (bif_f (by decide)).trans ?_
      rw [fillT, List.drop_of_length_le (by omega), List.append_nil]; rfl
  | d + 1, i, n + 1, h, hn => by
      have h15 : IntKind.i64.wrap (((i + 16 : Nat) : Int) - 15) = ((i + 1 : Nat) : Int) := by rw [wrap_i64 (by omega) (by omega)]; omega
      have h2 : IntKind.i64.wrap (((i + 16 : Nat) : Int) - 2) = ((i + 14 : Nat) : Int) := by rw [wrap_i64 (by omega) (by omega)]; omega
      have h16 : IntKind.i64.wrap (((i + 16 : Nat) : Int) - 16) = ((i : Nat) : Int) := by rw [wrap_i64 (by omega) (by omega)]; omega
      have h7 : IntKind.i64.wrap (((i + 16 : Nat) : Int) - 7) = ((i + 9 : Nat) : Int) := by rw [wrap_i64 (by omega) (by omega)]; omega
      have h1 : IntKind.i64.wrap (((i + 16 : Nat) : Int) + 1) = ((i + 1 + 16 : Nat) : Int) := by rw [wrap_i64 (by omega) (by omega)]; omega
      have hl := fillT_length bs T hT i (by omega)
      simp only [lp28_4, lpS28_4, h15, h2, h16, h7, h1, Int.toNat_natCast, zi, getP_ar]
      rw [pu_isInt (by omega), pu_isInt (by omega), pu_isInt (by omega), pu_isInt (by omega), pu_int (by omega), pu_int (by omega), pu_int (by omega), pu_int (by omega), pu_set]
      refine (bif_t (by simp; omega)).trans ?_
      refine (bif_t (by simp; omega)).trans ?_
      refine (bif_t rfl).trans ?_
      refine (bif_t (by simp; omega)).trans ?_
      refine (bif_t rfl).trans ?_
      refine (bif_t (by simp; omega)).trans ?_
      refine (bif_t rfl).trans ?_
      refine (bif_t (by simp; omega)).trans ?_
      refine (bif_t rfl).trans ?_
      refine (bif_t (by simp; omega)).trans ?_
      have := m28_4 bs T hT f l p x y w e k0 d (i + 1) n (by omega) (by omega)
      rw [fillT_get bs T i i (by omega), fillT_get bs T i (i + 1) (by omega), fillT_get bs T i (i + 9) (by omega), fillT_get bs T i (i + 14) (by omega), fillT_set bs T hT i (by omega)]
      have hn := nxtW_eq ((sched bs i).getD i 0) ((sched bs i).getD (i + 1) 0) ((sched bs i).getD (i + 9) 0) ((sched bs i).getD (i + 14) 0)
      rw [fillT, sched, ← hn] at this
      exact this
theorem m28_5 (W s : List Int) (hW : W.length = 64) (hs : s.length = 8) (f : Nat) (l : Nat) (p : Int) (x w e : List PV) (k0 : Nat → Int → List PV → List PV → List PV → List PV → List PV → List PV → Option Res) : ∀ (d i n : Nat), i + d = 64 → d < n →
    lp28_5 f k0 n l p (i : Int) x (pu .u32 kks) w e (pu .u32 W) (pu .u32 (rnds W s i)) = k0 l p x (pu .u32 kks) w e (pu .u32 W) (pu .u32 (rnds W s 64))
  | 0, i, n + 1, h, hn => by
      obtain rfl : i = 64 := by omega
      simp only [lp28_5, lpS28_5]
      exact bif_f (by decide)
  | d + 1, i, n + 1, h, hn => by
      have hl := rnds_length W s hs i
      have h1 : IntKind.i64.wrap ((i : Int) + 1) = ((i + 1 : Nat) : Int) := by rw [wrap_i64 (by omega) (by omega)]; omega
      have hk : (pu .u32 kks).getD i .top = .sc (.int .u32 (kks.getD i 0)) := pu_get (by show i < 64; omega)
      have hw : (pu .u32 W).getD i .top = .sc (.int .u32 (W.getD i 0)) := pu_get (by omega)
      have c1 : decide ((i : Int) < 64) = true := by simp; omega
      have c2 : decide (0 ≤ (i : Int)) = true := by simp
      have c3 : decide ((i : Int) < zi 64) = true := by simp; omega
      simp only [lp28_5, lpS28_5, getP_ar, Int.toNat_natCast, h1, hk, hw, c1, c2, c3, getD8' hl 0 (by omega), getD8' hl 1 (by omega), getD8' hl 2 (by omega), getD8' hl 3 (by omega), getD8' hl 4 (by omega), getD8' hl 5 (by omega), getD8' hl 6 (by omega), getD8' hl 7 (by omega), PV.isInt, PV.int, decide_true, Bool.and_true, cond_true]
      exact m28_5 W s hW hs f l p x w e k0 d (i + 1) n (by omega) (by omega)
theorem m28_6 (t s : List Int) (ht : t.length = 8) (hs : s.length = 8) (f : Nat) (l : Nat) (p : Int) (x y e u : List PV) (k0 : Nat → Int → List PV → List PV → List PV → List PV → List PV → Option Res) : ∀ (d i n : Nat), i + d = 8 → d < n →
    lp28_6 f k0 n l p (i : Int) x y (pu .u32 (fillM (fun j => ww (t.getD j 0 + s.getD j 0)) s i)) e u (pu .u32 t) = k0 l p x y (pu .u32 ((List.range 8).map fun j => ww (t.getD j 0 + s.getD j 0))) e u
  | 0, i, n + 1, h, hn => by
      obtain rfl : i = 8 := by omega
      simp only [lp28_6, lpS28_6]
      refine (bif_f (by decide)).trans ?_
      have := fillM_full (fun j => ww (t.getD j 0 + s.getD j 0)) s
      rw [hs] at this; rw [this]
  | d + 1, i, n + 1, h, hn => by
      have hl : (fillM (fun j => ww (t.getD j 0 + s.getD j 0)) s i).length = 8 := by rw [fillM_length _ _ _ (by omega), hs]
      have h1 : IntKind.i64.wrap ((i : Int) + 1) = ((i + 1 : Nat) : Int) := by rw [wrap_i64 (by omega) (by omega)]; omega
      have c1 : decide ((i : Int) < 8) = true := by simp; omega
      have c2 : decide (0 ≤ (i : Int)) = true := by simp
      have c3 : decide ((i : Int) < zi 8) = true := by simp; omega
      have g1 : ((i : Int)).toNat = i := by omega
      simp only [lp28_6, lpS28_6, getP_ar, g1, h1, c1, c2, c3, getD8' hl i (by omega), getD8' ht i (by omega), fillM_get _ s i (by omega), PV.isInt, PV.int, decide_true, Bool.and_true, cond_true, pu_set]
      have := m28_6 t s ht hs f l p x y e u k0 d (i + 1) n (by omega) (by omega)
      rw [← fillM_set _ s i (by omega), Int.add_comm (t.getD i 0)] at this
      exact this
theorem outB0 (s : List Int) (i : Nat) : outB s (4 * i) = IntKind.u8.wrap (shrI .u32 (s.getD i 0) 24) := by
  rw [outB, show 4 * i / 4 = i from by omega, show 4 * i % 4 = 0 from by omega]; rfl
theorem outB1 (s : List Int) (i : Nat) : outB s (4 * i + 1) = IntKind.u8.wrap (shrI .u32 (s.getD i 0) 16) := by
  rw [outB, show (4 * i + 1) / 4 = i from by omega, show (4 * i + 1) % 4 = 1 from by omega]; rfl
theorem outB2 (s : List Int) (i : Nat) : outB s (4 * i + 2) = IntKind.u8.wrap (shrI .u32 (s.getD i 0) 8) := by
  rw [outB, show (4 * i + 2) / 4 = i from by omega, show (4 * i + 2) % 4 = 2 from by omega]; rfl
theorem outB3 (s : List Int) (i : Nat) : outB s (4 * i + 3) = IntKind.u8.wrap (s.getD i 0) := by
  rw [outB, show (4 * i + 3) / 4 = i from by omega, show (4 * i + 3) % 4 = 3 from by omega]
  have : shrI .u32 (s.getD i 0) (24 - 8 * ((3 : Nat) : Int)) = s.getD i 0 := by
    have h0 : (24 - 8 * ((3 : Nat) : Int)) = 0 := by decide
    rw [h0]; simp [shrI]
  rw [this]
theorem m28_7 (s : List Int) (hs : s.length = 8) (f : Nat) (k0 : List PV → List PV → Option Res) (a : List PV) (t : List Int) (ht : t.length = 32) : ∀ (d i n : Nat), i + d = 8 → d < n →
    lp28_7 f k0 n (i : Int) a (pu .u32 s) (pu .u8 (fillM (outB s) t (4 * i))) = k0 a (pu .u8 (outP s))
  | 0, i, n + 1, h, hn => by
      obtain rfl : i = 8 := by omega
      simp only [lp28_7, lpS28_7]
      refine (bif_f (by decide)).trans ?_
      have := fillM_full (outB s) t
      rw [ht] at this; rw [show 4 * 8 = 32 from rfl, this]; rfl
  | d + 1, i, n + 1, h, hn => by
      have h1 : IntKind.i64.wrap ((i : Int) + 1) = ((i + 1 : Nat) : Int) := by rw [wrap_i64 (by omega) (by omega)]; omega
      have h4 : IntKind.i64.wrap (4 * (i : Int)) = ((4 * i : Nat) : Int) := by rw [wrap_i64 (by omega) (by omega)]; omega
      have h41 : IntKind.i64.wrap (((4 * i : Nat) : Int) + 1) = ((4 * i + 1 : Nat) : Int) := by rw [wrap_i64 (by omega) (by omega)]; omega
      have h42 : IntKind.i64.wrap (((4 * i : Nat) : Int) + 2) = ((4 * i + 2 : Nat) : Int) := by rw [wrap_i64 (by omega) (by omega)]; omega
      have h43 : IntKind.i64.wrap (((4 * i : Nat) : Int) + 3) = ((4 * i + 3 : Nat) : Int) := by rw [wrap_i64 (by omega) (by omega)]; omega
      have c1 : decide ((i : Int) < 8) = true := by simp; omega
      have c2 : decide (0 ≤ (i : Int)) = true := by simp
      have c3 : decide ((i : Int) < zi 8) = true := by simp; omega
      have b0 : (decide (0 ≤ ((4 * i : Nat) : Int)) && decide (((4 * i : Nat) : Int) < zi 32) && true) = true := by simp; omega
      have b1 : (decide (0 ≤ ((4 * i + 1 : Nat) : Int)) && decide (((4 * i + 1 : Nat) : Int) < zi 32) && true) = true := by simp; omega
      have b2 : (decide (0 ≤ ((4 * i + 2 : Nat) : Int)) && decide (((4 * i + 2 : Nat) : Int) < zi 32) && true) = true := by simp; omega
      have b3 : (decide (0 ≤ ((4 * i + 3 : Nat) : Int)) && decide (((4 * i + 3 : Nat) : Int) < zi 32) && true) = true := by simp; omega
      have g1 : ((i : Int)).toNat = i := by omega
      have g2 : (((4 * i : Nat) : Int)).toNat = 4 * i := by omega
      have g3 : (((4 * i + 1 : Nat) : Int)).toNat = 4 * i + 1 := by omega
      have g4 : (((4 * i + 2 : Nat) : Int)).toNat = 4 * i + 2 := by omega
      have g5 : (((4 * i + 3 : Nat) : Int)).toNat = 4 * i + 3 := by omega
      simp only [lp28_7, lpS28_7, h1, h4, h41, h42, h43, b0, b1, b2, b3, g1, g2, g3, g4, g5, getP_ar, c1, c2, c3, getD8' hs i (by omega), PV.isInt, PV.int, decide_true, Bool.and_true, cond_true, pu_set]
      have := m28_7 s hs f k0 a t ht d (i + 1) n (by omega) (by omega)
      rw [show 4 * (i + 1) = 4 * i + 3 + 1 from by omega, ← fillM_set (outB s) t (4 * i + 3) (by omega), ← fillM_set (outB s) t (4 * i + 2) (by omega), ← fillM_set (outB s) t (4 * i + 1) (by omega), ← fillM_set (outB s) t (4 * i) (by omega), outB0, outB1, outB2, outB3] at this
      exact this
theorem m28_2 (P : List Int) (m : Nat) (hP : P.length = 64 * m) (hb : P.length ≤ 140737488356000) (f : Nat) (hf : 100 ≤ f) (x : List PV) (k0 : List PV → List PV → Option Res) : ∀ (d i n : Nat) (T : List Int), i + d = m → d < n → T.length = 64 →
    lp28_2 f k0 n P.length ((64 * i : Nat) : Int) x (pu .u32 kks) (pu .u32 (foldB iv P i)) (pu .u8 P) (pu .u32 T) = k0 x (pu .u32 (foldB iv P m))
  | 0, i, n + 1, T, h, hn, hT => by
      obtain rfl : i = m := by omega
      simp only [lp28_2, lpS28_2]
      exact bif_f (by simp [zi]; omega)
  | d + 1, i, n + 1, T, h, hn, hT => by
      have hfl := foldB_length iv P rfl i
      simp only [lp28_2, lpS28_2]
      refine (bif_t (by simp [zi]; omega)).trans ?_
      have e3 := fun kk => m28_3 P i (by omega) hb T hT f x (pu .u32 kks) (pu .u32 (foldB iv P i)) kk 16 0 f (by omega) (by omega)
      have e4 := fun kk => m28_4 ((P.drop (64 * i)).take 64) T hT f P.length ((64 * i : Nat) : Int) x (pu .u32 kks) (pu .u32 (foldB iv P i)) (pu .u8 P) kk 48 0 f (by omega) (by omega)
      have hW : (spreadP ((P.drop (64 * i)).take 64)).length = 64 := sched_length _ 48
      have e5 := fun kk => m28_5 (spreadP ((P.drop (64 * i)).take 64)) (foldB iv P i) hW hfl f P.length ((64 * i : Nat) : Int) x (pu .u32 (foldB iv P i)) (pu .u8 P) kk 64 0 f (by omega) (by omega)
      have e6 := fun kk => m28_6 (rnds (spreadP ((P.drop (64 * i)).take 64)) (foldB iv P i) 64) (foldB iv P i) (rnds_length _ _ hfl 64) hfl f P.length ((64 * i : Nat) : Int) x (pu .u32 kks) (pu .u8 P) (pu .u32 (spreadP ((P.drop (64 * i)).take 64))) kk 8 0 f (by omega) (by omega)
      have h0 : fillM (word ((P.drop (64 * i)).take 64)) T 16 = fillT ((P.drop (64 * i)).take 64) T 0 := rfl
      rw [fillM_zero] at e6
      simp only [fillM_zero] at e3
      refine (e3 _).trans ?_
      rw [h0]
      refine (e4 _).trans ?_
      refine (e5 _).trans ?_
      refine (e6 _).trans ?_
      have h1 : IntKind.i64.wrap (((64 * i : Nat) : Int) + 64) = ((64 * (i + 1) : Nat) : Int) := by rw [wrap_i64 (by omega) (by omega)]; omega
      rw [h1]
      exact m28_2 P m hP hb f hf x k0 d (i + 1) n (spreadP ((P.drop (64 * i)).take 64)) (by omega) (by omega) hW
theorem g28_eq (bs : List Int) (hb : bs.length ≤ 140737488355000) (nl fl : Bool) (k : Res → Option Res) : g28 ((padP bs).length / 64 + 100) nl fl (pu .u8 bs) k = k ⟨.ar 37 (pu .u8 (sumP bs)), [], []⟩ := by
  rw [sumP_eq]
  have hlen : (padP bs).length = bs.length + 1 + zs (bs.length + 1) + 8 := by simp [padP, lenB]; omega
  have hz : zs (bs.length + 1) < 64 := by unfold zs; omega
  have h64 : (padP bs).length = 64 * ((padP bs).length / 64) := padP_length bs
  generalize hf : (padP bs).length / 64 + 100 = f
  refine (bif_t (by simp [roomy]; omega)).trans ?_
  refine (bif_t (by simp [roomy]; omega)).trans ?_
  have hL : List.take (0 + (pu .u8 bs).length) ([] ++ pu .u8 bs) ++ [PV.sc (Value.int IntKind.u8 128)] = pu .u8 (bs ++ [128]) := by
    rw [List.take_of_length_le (by simp)]; simp
  rw [hL]
  have e0 := fun kk x y w => m28_0 f nl fl (pu .u8 bs) x y w kk (zs (bs.length + 1)) f (bs ++ [128]) (by simp) (by omega) (by simp; omega)
  simp only [List.length_append, List.length_cons, List.length_nil, Nat.zero_add] at e0
  have hl1 : 0 + (pu .u8 bs).length + 1 = bs.length + 1 := by simp
  rw [hl1]
  refine (e0 _ _ _ _).trans ?_
  have e1 := fun kk x y w => m28_1 f (IntKind.u64.wrap (IntKind.u64.wrap (zi (pu .u8 bs).length) * 8)) x y w kk (bs ++ [128] ++ List.replicate (zs (bs.length + 1)) 0) (by simp; omega) 8 0 f (by omega) (by omega)
  have hl2 : (bs ++ [128] ++ List.replicate (zs (bs.length + 1)) 0).length = bs.length + 1 + zs (bs.length + 1) := by simp; omega
  rw [hl2] at e1
  simp only [List.range_zero, List.map_nil, List.append_nil, Nat.add_zero] at e1
  refine (e1 _ _ _ _).trans ?_
  have hPd : bs ++ [128] ++ List.replicate (zs (bs.length + 1)) 0 ++ (List.range 8).map (lenR (IntKind.u64.wrap (IntKind.u64.wrap (zi (pu .u8 bs).length) * 8))) = padP bs := by
    rw [pu_length]; rfl
  rw [hPd, ← hlen]
  have e2 := fun kk x => m28_2 (padP bs) ((padP bs).length / 64) h64 (by omega) f (by omega) x kk ((padP bs).length / 64) 0 f (List.replicate 64 0) (by omega) (by omega) (by simp)
  refine (e2 _ _).trans ?_
  have hfl := foldB_length iv (padP bs) rfl ((padP bs).length / 64)
  have e7 := fun kk a => m28_7 (foldB iv (padP bs) ((padP bs).length / 64)) hfl f kk a (List.replicate 32 0) (by simp) 8 0 f (by omega) (by omega)
  simp only [Nat.mul_zero, fillM_zero] at e7
  exact e7 _ _
def run28' : List PV → List Ent → (Res → Option Res) → Option Res
  | [.ro 5 nl fl b], [], k => bif allInt .u8 b && decide (b.length ≤ 140737488355000) then k ⟨.ar 37 (pu .u8 (sumP (ints b))), [], []⟩ else none
  | _, _, _ => none
def s28' : Sig := { own := [], run := run28' }
theorem ok28' : CallOk tau Try.prog 28 s28' := fn_ok2 tabOk F28_ok mixed fo28 bo28 (fun n => an28 (r28_0 n) (r28_1 n) (r28_2 n) (r28_7 n)) [] 0 [] run28' (fun n => ia28 n) fun xs es k res hr => by
  unfold run28' at hr
  split at hr
  · rename_i nl fl l
    obtain ⟨hc, hr⟩ := of_bif hr
    simp only [Bool.and_eq_true, decide_eq_true_eq] at hc
    refine ⟨rfl, (padP (ints l)).length / 64 + 100, 0, (e28 _ _ _ _ _).trans ?_⟩
    have he := pu_ints hc.1
    have := g28_eq (ints l) (by simpa using hc.2) nl fl k
    rw [← he] at this
    rw [this]; exact hr
  · cases hr
end Go.Proofs.Ytcklhipdldpkhaa.Rx

namespace Go.Proofs.Ytcklhipdldpkhaa.Rx
open Go
set_option linter.unusedVariables false
set_option maxRecDepth 100000
set_option maxHeartbeats 0
noncomputable abbrev z36 : List PV := [PV.sc (.int .u8 0), PV.sc (.int .u8 0), PV.sc (.int .u8 0), PV.sc (.int .u8 0), PV.sc (.int .u8 0), PV.sc (.int .u8 0), PV.sc (.int .u8 0), PV.sc (.int .u8 0), PV.sc (.int .u8 0), PV.sc (.int .u8 0), PV.sc (.int .u8 0), PV.sc (.int .u8 0), PV.sc (.int .u8 0), PV.sc (.int .u8 0), PV.sc (.int .u8 0), PV.sc (.int .u8 0), PV.sc (.int .u8 0), PV.sc (.int .u8 0), PV.sc (.int .u8 0), PV.sc (.int .u8 0), PV.sc (.int .u8 0), PV.sc (.int .u8 0), PV.sc (.int .u8 0), PV.sc (.int .u8 0), PV.sc (.int .u8 0), PV.sc (.int .u8 0), PV.sc (.int .u8 0), PV.sc (.int .u8 0), PV.sc (.int .u8 0), PV.sc (.int .u8 0), PV.sc (.int .u8 0), PV.sc (.int .u8 0), PV.sc (.int .u8 0), PV.sc (.int .u8 0), PV.sc (.int .u8 0), PV.sc (.int .u8 0), PV.sc (.int .u8 0), PV.sc (.int .u8 0), PV.sc (.int .u8 0), PV.sc (.int .u8 0), PV.sc (.int .u8 0), PV.sc (.int .u8 0), PV.sc (.int .u8 0), PV.sc (.int .u8 0), PV.sc (.int .u8 0), PV.sc (.int .u8 0), PV.sc (.int .u8 0), PV.sc (.int .u8 0), PV.sc (.int .u8 0), PV.sc (.int .u8 0), PV.sc (.int .u8 0), PV.sc (.int .u8 0), PV.sc (.int .u8 0), PV.sc (.int .u8 0), PV.sc (.int .u8 0), PV.sc (.int .u8 0), PV.sc (.int .u8 0), PV.sc (.int .u8 0), PV.sc (.int .u8 0), PV.sc (.int .u8 0), PV.sc (.int .u8 0), PV.sc (.int .u8 0), PV.sc (.int .u8 0), PV.sc (.int .u8 0)]
def N36 : Nat := 53
noncomputable def F36 : Fns := addF 28 s28' (F0)
theorem F36_ok : FnsOk tau Try.prog F36 := (F0_ok).add ok28' en28
noncomputable def c36_0 : Code := subC (Try.f36.body.get!) [1, 1, 1, 1, 0, 1, 0, 0]
def nm36_0 : Nm := [(1, .any), (4, .any), (5, .any), (7, .any), (8, .any), (9, .any)]
def nx36_0 : Nm := [(1, .any), (4, .any), (7, .any), (8, .any)]
def x36_0 : An := (.seq (.seq .leaf (.cond .leaf .leaf)) (.seq (.block none .leaf) .leaf))
def an36 (r0 : RunL) : An := (.seq .leaf (.seq .leaf (.seq (.seq .leaf (.cond (.seq .leaf .leaf) .leaf)) (.seq .leaf (.seq (.seq .leaf (.block none (.sum nm36_0 N36 r0))) (.seq .leaf (.seq .leaf .leaf)))))))
noncomputable def lpS36_0 (f : Nat) (rc : Bool → Bool → List PV → Int → List PV → List PV → List PV → List PV → Option Res) (k0 : Bool → Bool → List PV → List PV → List PV → List PV → Option Res) (v0 : Bool) (v1 : Bool) (v2 : List PV) (v3 : Int) (v4 : List PV) (v5 : List PV) (v6 : List PV) (v7 : List PV) : Option Res := bif decide (v3 < 64) then bif decide (0 ≤ v3) && decide (v3 < zi 64) && true then bif PV.isInt IntKind.u8 (getP (v5.getD (0 + v3.toNat) PV.top) []) && true then bif decide (0 ≤ v3) && decide (v3 < zi 64) && true then bif PV.isInt IntKind.u8 (getP (v5.getD (0 + v3.toNat) PV.top) []) && true then bif decide (0 ≤ v3) && decide (v3 < zi 64) && true then bif decide (0 ≤ v3) && decide (v3 < zi 64) && true then rc v0 v1 v2 (IntKind.i64.wrap (v3 + 1)) v4 v5 (v6.set (0 + v3.toNat) (.sc (.int .u8 (bitI BinOp.xor IntKind.u8 (getP (v5.getD (0 + v3.toNat) PV.top) []).int 54)))) (v7.set (0 + v3.toNat) (.sc (.int .u8 (bitI BinOp.xor IntKind.u8 (getP (v5.getD (0 + v3.toNat) PV.top) []).int 92)))) else none else none else none else none else none else none else k0 v0 v1 v2 v4 v6 v7
noncomputable def lp36_0 (f : Nat) (k0 : Bool → Bool → List PV → List PV → List PV → List PV → Option Res) : Nat → Bool → Bool → List PV → Int → List PV → List PV → List PV → List PV → Option Res
  | 0, _, _, _, _, _, _, _, _ => none
  | n + 1, v0, v1, v2, v3, v4, v5, v6, v7 => lpS36_0 f (lp36_0 f k0 n) k0 v0 v1 v2 v3 v4 v5 v6 v7
theorem lpR36_0 (f : Nat) (k : Kont) (n : Nat) (v0 : Bool) (v1 : Bool) (v2 : List PV) (v3 : Int) (v4 : List PV) (v5 : List PV) (v6 : List PV) (v7 : List PV) : evLoop tau 0 nm36_0 (fun s k => ev tau F36 0 0 c36_0 (x36_0 ) s k) (n + 1) (fillS nm36_0 N36 [.ro 5 v0 v1 v2, .ptr 864 [], .ow 5 865 [] 0 64 (some 64), .ow 5 866 [] 0 64 (some 64), .ow 5 867 [] 0 64 (some 64), .sc (.int .i64 v3)] [(864, .box false 37 (PV.ar 37 v4)), (865, .vec false 5 false v5), (866, .vec false 5 false v6), (867, .vec false 5 false v7)]) (kNorm tau 0 nx36_0 k) = lpS36_0 f (fun v0 v1 v2 v3 v4 v5 v6 v7 => evLoop tau 0 nm36_0 (fun s k => ev tau F36 0 0 c36_0 (x36_0 ) s k) n (fillS nm36_0 N36 [.ro 5 v0 v1 v2, .ptr 864 [], .ow 5 865 [] 0 64 (some 64), .ow 5 866 [] 0 64 (some 64), .ow 5 867 [] 0 64 (some 64), .sc (.int .i64 v3)] [(864, .box false 37 (PV.ar 37 v4)), (865, .vec false 5 false v5), (866, .vec false 5 false v6), (867, .vec false 5 false v7)]) (kNorm tau 0 nx36_0 k)) (fun x0 x1 x2 x3 x4 x5 => k (Ex.exit 0) (fillS nx36_0 N36 [.ro 5 x0 x1 x2, .ptr 864 [], .ow 5 865 [] 0 64 (some 64), .ow 5 866 [] 0 64 (some 64)] [(864, .box false 37 (PV.ar 37 x3)), (865, .vec false 5 false x4), (866, .vec false 5 false x5)])) v0 v1 v2 v3 v4 v5 v6 v7 := by kernel_rfl
theorem lpE36_0 (f : Nat) (k : Kont) : ∀ (n : Nat) (v0 : Bool) (v1 : Bool) (v2 : List PV) (v3 : Int) (v4 : List PV) (v5 : List PV) (v6 : List PV) (v7 : List PV), evLoop tau 0 nm36_0 (fun s k => ev tau F36 0 0 c36_0 (x36_0 ) s k) n (fillS nm36_0 N36 [.ro 5 v0 v1 v2, .ptr 864 [], .ow 5 865 [] 0 64 (some 64), .ow 5 866 [] 0 64 (some 64), .ow 5 867 [] 0 64 (some 64), .sc (.int .i64 v3)] [(864, .box false 37 (PV.ar 37 v4)), (865, .vec false 5 false v5), (866, .vec false 5 false v6), (867, .vec false 5 false v7)]) (kNorm tau 0 nx36_0 k) = lp36_0 f (fun x0 x1 x2 x3 x4 x5 => k (Ex.exit 0) (fillS nx36_0 N36 [.ro 5 x0 x1 x2, .ptr 864 [], .ow 5 865 [] 0 64 (some 64), .ow 5 866 [] 0 64 (some 64)] [(864, .box false 37 (PV.ar 37 x3)), (865, .vec false 5 false x4), (866, .vec false 5 false x5)])) n v0 v1 v2 v3 v4 v5 v6 v7 | 0, _, _, _, _, _, _, _, _ => rfl | n + 1, v0, v1, v2, v3, v4, v5, v6, v7 => (lpR36_0 f k n v0 v1 v2 v3 v4 v5 v6 v7).trans (congrArg (fun r => lpS36_0 f r (fun x0 x1 x2 x3 x4 x5 => k (Ex.exit 0) (fillS nx36_0 N36 [.ro 5 x0 x1 x2, .ptr 864 [], .ow 5 865 [] 0 64 (some 64), .ow 5 866 [] 0 64 (some 64)] [(864, .box false 37 (PV.ar 37 x3)), (865, .vec false 5 false x4), (866, .vec false 5 false x5)])) v0 v1 v2 v3 v4 v5 v6 v7) (by funext v0 v1 v2 v3 v4 v5 v6 v7; exact lpE36_0 f k n v0 v1 v2 v3 v4 v5 v6 v7))
noncomputable def r36_0 (f : Nat) : List PV → List (Nat × Ent) → Kont → Option Res
  | [.ro 5 v0 v1 v2, .ptr 864 [], .ow 5 865 [] 0 64 (some 64), .ow 5 866 [] 0 64 (some 64), .ow 5 867 [] 0 64 (some 64),
  PV.sc
    (Value.int IntKind.i64
      v3)], [(864, .box false 37 (PV.ar 37 v4)), (865, .vec false 5 false v5), (866, .vec false 5 false v6),
  (867,
    Ent.vec false 5 false
      v7)], k => lp36_0 f (fun x0 x1 x2 x3 x4 x5 => k (Ex.exit
  0) (fillS nx36_0 N36 [.ro 5 x0 x1 x2, .ptr 864 [], .ow 5 865 [] 0 64 (some 64),
  PV.ow 5 866 [] 0 64 (some 64)] [(864, .box false 37 (PV.ar 37 x3)), (865, .vec false 5 false x4), (866, .vec false 5 false x5)])) f v0 v1 v2 v3 v4 v5 v6 v7
  | _, _, _ => none
theorem it36_0 (f : Nat) : items c36_0 x36_0 = [] := by kernel_rfl
theorem i36_0 (f : Nat) : (Item.l c36_0 nm36_0 N36 (r36_0 f)).Ok tau Try.prog 0 := loop_item tabOk F36_ok mixed (x := x36_0) (nm2 := nx36_0) (anOk_items _ _ (by rw [it36_0 f]; intro q hq; cases hq)) fun vs hp k res hr => by
  unfold r36_0 at hr
  split at hr
  · exact ⟨f, 0, (lpE36_0 f _ f _ _ _ _ _ _ _ _ ).trans hr⟩
  · cases hr
noncomputable def g36 (f : Nat) (key_z : Bool) (key_f : Bool) (key : List PV) (text_z : Bool) (text_f : Bool) (text : List PV) (k : Res → Option Res) : Option Res := bif decide (zi key.length > 64) then bif allInt IntKind.u8 key && decide (key.length ≤ 140737488355000) then lp36_0 f (fun x0_0 x1_0 x2_0 x3_0 x4_0 x5_0 => bif roomy (64 + x2_0.length) 1 && true then bif allInt IntKind.u8 (List.take (64 + x2_0.length) (List.take 64 x4_0 ++ x2_0)) && decide ((List.take (64 + x2_0.length) (List.take 64 x4_0 ++ x2_0)).length ≤ 140737488355000) then bif roomy (64 + (List.take 32 (pu IntKind.u8 (sumP (ints (List.take (64 + x2_0.length) (List.take 64 x4_0 ++ x2_0)))))).length) 1 && true then bif allInt IntKind.u8 (List.take (64 + (List.take 32 (pu IntKind.u8 (sumP (ints (List.take (64 + x2_0.length) (List.take 64 x4_0 ++ x2_0)))))).length) (List.take 64 x5_0 ++ List.take 32 (pu IntKind.u8 (sumP (ints (List.take (64 + x2_0.length) (List.take 64 x4_0 ++ x2_0))))))) && decide ((List.take (64 + (List.take 32 (pu IntKind.u8 (sumP (ints (List.take (64 + x2_0.length) (List.take 64 x4_0 ++ x2_0)))))).length) (List.take 64 x5_0 ++ List.take 32 (pu IntKind.u8 (sumP (ints (List.take (64 + x2_0.length) (List.take 64 x4_0 ++ x2_0))))))).length ≤ 140737488355000) then k (Res.mk (.ar 37 (pu IntKind.u8 (sumP (ints (List.take (64 + (List.take 32 (pu IntKind.u8 (sumP (ints (List.take (64 + x2_0.length) (List.take 64 x4_0 ++ x2_0)))))).length) (List.take 64 x5_0 ++ List.take 32 (pu IntKind.u8 (sumP (ints (List.take (64 + x2_0.length) (List.take 64 x4_0 ++ x2_0))))))))))) [] []) else none else none else none else none) f text_z text_f text (0) ([.sc (.int .u8 0), .sc (.int .u8 0), .sc (.int .u8 0), .sc (.int .u8 0), .sc (.int .u8 0), .sc (.int .u8 0), .sc (.int .u8 0), .sc (.int .u8 0), .sc (.int .u8 0), .sc (.int .u8 0), .sc (.int .u8 0), .sc (.int .u8 0), .sc (.int .u8 0), .sc (.int .u8 0), .sc (.int .u8 0), .sc (.int .u8 0), .sc (.int .u8 0), .sc (.int .u8 0), .sc (.int .u8 0), .sc (.int .u8 0), .sc (.int .u8 0), .sc (.int .u8 0), .sc (.int .u8 0), .sc (.int .u8 0), .sc (.int .u8 0), .sc (.int .u8 0), .sc (.int .u8 0), .sc (.int .u8 0), .sc (.int .u8 0), .sc (.int .u8 0), .sc (.int .u8 0), .sc (.int .u8 0)]) (List.take 64 (List.take 32 (pu IntKind.u8 (sumP (ints key)))) ++ List.drop (0 + min (List.take 32 (pu IntKind.u8 (sumP (ints key)))).length 64) z36) (z36) (z36) else none else lp36_0 f (fun x0_1 x1_1 x2_1 x3_1 x4_1 x5_1 => bif roomy (64 + x2_1.length) 1 && true then bif allInt IntKind.u8 (List.take (64 + x2_1.length) (List.take 64 x4_1 ++ x2_1)) && decide ((List.take (64 + x2_1.length) (List.take 64 x4_1 ++ x2_1)).length ≤ 140737488355000) then bif roomy (64 + (List.take 32 (pu IntKind.u8 (sumP (ints (List.take (64 + x2_1.length) (List.take 64 x4_1 ++ x2_1)))))).length) 1 && true then bif allInt IntKind.u8 (List.take (64 + (List.take 32 (pu IntKind.u8 (sumP (ints (List.take (64 + x2_1.length) (List.take 64 x4_1 ++ x2_1)))))).length) (List.take 64 x5_1 ++ List.take 32 (pu IntKind.u8 (sumP (ints (List.take (64 + x2_1.length) (List.take 64 x4_1 ++ x2_1))))))) && decide ((List.take (64 + (List.take 32 (pu IntKind.u8 (sumP (ints (List.take (64 + x2_1.length) (List.take 64 x4_1 ++ x2_1)))))).length) (List.take 64 x5_1 ++ List.take 32 (pu IntKind.u8 (sumP (ints (List.take (64 + x2_1.length) (List.take 64 x4_1 ++ x2_1))))))).length ≤ 140737488355000) then k (Res.mk (.ar 37 (pu IntKind.u8 (sumP (ints (List.take (64 + (List.take 32 (pu IntKind.u8 (sumP (ints (List.take (64 + x2_1.length) (List.take 64 x4_1 ++ x2_1)))))).length) (List.take 64 x5_1 ++ List.take 32 (pu IntKind.u8 (sumP (ints (List.take (64 + x2_1.length) (List.take 64 x4_1 ++ x2_1))))))))))) [] []) else none else none else none else none) f text_z text_f text (0) ([.sc (.int .u8 0), .sc (.int .u8 0), .sc (.int .u8 0), .sc (.int .u8 0), .sc (.int .u8 0), .sc (.int .u8 0), .sc (.int .u8 0), .sc (.int .u8 0), .sc (.int .u8 0), .sc (.int .u8 0), .sc (.int .u8 0), .sc (.int .u8 0), .sc (.int .u8 0), .sc (.int .u8 0), .sc (.int .u8 0), .sc (.int .u8 0), .sc (.int .u8 0), .sc (.int .u8 0), .sc (.int .u8 0), .sc (.int .u8 0), .sc (.int .u8 0), .sc (.int .u8 0), .sc (.int .u8 0), .sc (.int .u8 0), .sc (.int .u8 0), .sc (.int .u8 0), .sc (.int .u8 0), .sc (.int .u8 0), .sc (.int .u8 0), .sc (.int .u8 0), .sc (.int .u8 0), .sc (.int .u8 0)]) (List.take 64 key ++ List.drop (0 + min key.length 64) z36) (z36) (z36)
theorem e36 (f : Nat) (key_z : Bool) (key_f : Bool) (key : List PV) (text_z : Bool) (text_f : Bool) (text : List PV) (k : Res → Option Res) : evFn tau F36 Try.f36 (Try.f36.body.get!) (an36 (r36_0 f)) [.ro] 0 [.ro 5 key_z key_f key, .ro 5 text_z text_f text] [] k = g36 f key_z key_f key text_z text_f text k := by kernel_rfl
theorem it36 (f : Nat) : items (Try.f36.body.get!) (an36 (r36_0 f)) = [.l c36_0 nm36_0 N36 (r36_0 f)] := by kernel_rfl
theorem ia36 (f : Nat) : ∀ q ∈ items (Try.f36.body.get!) (an36 (r36_0 f)), q.Ok tau Try.prog 0 := by
  rw [it36 f]; simp only [List.forall_mem_cons, List.not_mem_nil, false_implies, implies_true, and_true]; exact i36_0 f
theorem fo36 : Try.prog.funcs[36]? = some Try.f36 := by kernel_rfl
theorem bo36 : Try.f36.body = some (Try.f36.body.get!) := by kernel_rfl
theorem en36 : Enters Try.prog 36 := enters_of fo36 (by kernel_rfl) bo36
end Go.Proofs.Ytcklhipdldpkhaa.Rx

-- FN ref3.Mac
namespace Go.Proofs.Ytcklhipdldpkhaa.Rx
open Go
set_option linter.unusedVariables false
set_option linter.unusedSimpArgs false
set_option maxRecDepth 100000
set_option maxHeartbeats 1000000
theorem fill_xor' (K : List Int) (hK : K.length = 64) (x : Int) : (List.range 64).map (fun j => bitI .xor .u8 (K.getD j 0) x) = xorB K x := by
  rw [← fill_xor K hK x]
  apply List.map_congr_left
  intro j _
  exact bitI_xor_comm _ _ _
theorem l36_0 (K : List Int) (hK : K.length = 64) (f : Nat) (k0 : Bool → Bool → List PV → List PV → List PV → List PV → Option Res) (tz tf : Bool) (text h : List PV) : ∀ (d i n : Nat), i + d = 64 → d < n →
    lp36_0 f k0 n tz tf text (i : Int) h (pu .u8 K) (pu .u8 (fillM (fun j => bitI .xor .u8 (K.getD j 0) 54) (List.replicate 64 0) i)) (pu .u8 (fillM (fun j => bitI .xor .u8 (K.getD j 0) 92) (List.replicate 64 0) i)) = k0 tz tf text h (pu .u8 (xorB K 54)) (pu .u8 (xorB K 92))
  | 0, i, n + 1, hh, hn => by
      obtain rfl : i = 64 := by omega
      simp only [lp36_0, lpS36_0]
      refine (bif_f (by decide)).trans ?_
      have h1 := fillM_full (fun j => bitI .xor .u8 (K.getD j 0) 54) (List.replicate 64 0)
      have h2 := fillM_full (fun j => bitI .xor .u8 (K.getD j 0) 92) (List.replicate 64 0)
      rw [List.length_replicate] at h1 h2
      rw [h1, h2, fill_xor' K hK, fill_xor' K hK]
  | d + 1, i, n + 1, hh, hn => by
      have g1 : ((i : Int)).toNat = i := by omega
      have h1 : IntKind.i64.wrap ((i : Int) + 1) = ((i + 1 : Nat) : Int) := by rw [wrap_i64 (by omega) (by omega)]; omega
      have c0 : (decide (0 ≤ (i : Int)) && decide ((i : Int) < zi 64) && true) = true := by simp; omega
      simp only [lp36_0, lpS36_0, g1, h1, Nat.zero_add, getP]
      rw [pu_isInt (by omega), pu_int (by omega), pu_set, pu_set]
      refine (bif_t (by simp; omega)).trans ((bif_t c0).trans ((bif_t rfl).trans ((bif_t c0).trans ((bif_t rfl).trans ((bif_t c0).trans ((bif_t c0).trans ?_))))))
      have := l36_0 K hK f k0 tz tf text h d (i + 1) n (by omega) (by omega)
      rw [← fillM_set _ _ i (by simp; omega), ← fillM_set _ _ i (by simp; omega)] at this
      exact this
def macTail (a b text : List PV) (k : Res → Option Res) : Option Res :=
  bif roomy (64 + text.length) 1 && true then
    bif allInt .u8 (List.take (64 + text.length) (List.take 64 a ++ text)) && decide ((List.take (64 + text.length) (List.take 64 a ++ text)).length ≤ 140737488355000) then
      bif roomy (64 + (List.take 32 (pu .u8 (sumP (ints (List.take (64 + text.length) (List.take 64 a ++ text)))))).length) 1 && true then
        bif allInt .u8 (List.take (64 + (List.take 32 (pu .u8 (sumP (ints (List.take (64 + text.length) (List.take 64 a ++ text)))))).length) (List.take 64 b ++ List.take 32 (pu .u8 (sumP (ints (List.take (64 + text.length) (List.take 64 a ++ text)))))))
            && decide ((List.take (64 + (List.take 32 (pu .u8 (sumP (ints (List.take (64 + text.length) (List.take 64 a ++ text)))))).length) (List.take 64 b ++ List.take 32 (pu .u8 (sumP (ints (List.take (64 + text.length) (List.take 64 a ++ text))))))).length ≤ 140737488355000) then
          k ⟨.ar 37 (pu .u8 (sumP (ints (List.take (64 + (List.take 32 (pu .u8 (sumP (ints (List.take (64 + text.length) (List.take 64 a ++ text)))))).length) (List.take 64 b ++ List.take 32 (pu .u8 (sumP (ints (List.take (64 + text.length) (List.take 64 a ++ text)))))))))), [], []⟩
        else none
      else none
    else none
  else none
theorem g36_form (f : Nat) (kz kf : Bool) (key : List PV) (tz tf : Bool) (text : List PV) (k : Res → Option Res) : g36 f kz kf key tz tf text k =
    (bif decide (zi key.length > 64) then
      bif allInt .u8 key && decide (key.length ≤ 140737488355000) then
        lp36_0 f (fun _ _ t _ a b => macTail a b t k) f tz tf text 0 (pu .u8 (List.replicate 32 0)) (kbG (List.take 32 (pu .u8 (sumP (ints key))))) (pu .u8 (List.replicate 64 0)) (pu .u8 (List.replicate 64 0))
      else none
    else lp36_0 f (fun _ _ t _ a b => macTail a b t k) f tz tf text 0 (pu .u8 (List.replicate 32 0)) (kbG key) (pu .u8 (List.replicate 64 0)) (pu .u8 (List.replicate 64 0))) := by kernel_rfl
theorem macTail_eq (K T : List Int) (hK : K.length = 64) (hT : T.length ≤ 1000000000) (k : Res → Option Res) :
    macTail (pu .u8 (xorB K 54)) (pu .u8 (xorB K 92)) (pu .u8 T) k = k ⟨.ar 37 (pu .u8 (sumP (xorB K 92 ++ sumP (xorB K 54 ++ T)))), [], []⟩ := by
  have e1 : List.take (64 + (pu .u8 T).length) (List.take 64 (pu .u8 (xorB K 54)) ++ pu .u8 T) = pu .u8 (xorB K 54 ++ T) := by
    rw [List.take_of_length_le (i := 64) (by simp [hK]), List.take_of_length_le (by simp [hK]), ← pu_append]
  have e2 : ∀ l : List Int, List.take 32 (pu .u8 (sumP l)) = pu .u8 (sumP l) := fun l => List.take_of_length_le (by simp [sumP_length])
  have e3 : ∀ l : List Int, List.take (64 + (pu .u8 (sumP l)).length) (List.take 64 (pu .u8 (xorB K 92)) ++ pu .u8 (sumP l)) = pu .u8 (xorB K 92 ++ sumP l) := fun l => by
    rw [List.take_of_length_le (i := 64) (by simp [hK]), List.take_of_length_le (by simp [hK]), ← pu_append]
  unfold macTail
  rw [e1, e2, e3, bif_t (by simp [roomy]; omega), bif_t (by rw [allInt_pu, pu_length]; simp [hK]; omega), bif_t (by simp [roomy, sumP_length]), bif_t (by rw [allInt_pu, pu_length]; simp [hK, sumP_length])]
  simp only [ints_pu]
noncomputable def run36' : List PV → List Ent → (Res → Option Res) → Option Res
  | [.ro 5 kz kf key, .ro 5 tz tf text], [], k =>
    bif (allInt .u8 key && decide (key.length ≤ 1000000000)) && (allInt .u8 text && decide (text.length ≤ 1000000000)) then
      k ⟨.ar 37 (pu .u8 (macP (ints key) (ints text))), [], []⟩ else none
  | _, _, _ => none
noncomputable def s36' : Sig := { own := [], run := run36' }
theorem g36_eq (kz kf : Bool) (key : List PV) (tz tf : Bool) (text : List PV) (k : Res → Option Res) (a1 : allInt .u8 key = true) (a2 : key.length ≤ 1000000000) (h3 : allInt .u8 text = true) (h4 : text.length ≤ 1000000000) :
    g36 70 kz kf key tz tf text k = k ⟨.ar 37 (pu .u8 (macP (ints key) (ints text))), [], []⟩ := by
  rw [g36_form, macP_eq, macP0]
  have hi := pu_ints a1
  have ht := pu_ints h3
  have hL : ∀ K : List Int, K.length = 64 → lp36_0 70 (fun _ _ t _ a b => macTail a b t k) 70 tz tf text 0 (pu .u8 (List.replicate 32 0)) (pu .u8 K) (pu .u8 (List.replicate 64 0)) (pu .u8 (List.replicate 64 0)) = k ⟨.ar 37 (pu .u8 (sumP (xorB K 92 ++ sumP (xorB K 54 ++ ints text)))), [], []⟩ := by
    intro K hK
    have := l36_0 K hK 70 (fun _ _ t _ a b => macTail a b t k) tz tf text (pu .u8 (List.replicate 32 0)) 64 0 70 (by omega) (by omega)
    rw [fillM_zero, fillM_zero] at this
    refine this.trans ?_
    have hm := macTail_eq K (ints text) hK (by simpa using h4) k
    rw [← ht] at hm
    exact hm
  by_cases hc : key.length > 64
  · rw [bif_t (by simp [zi]; omega), bif_t (by simp [a1]; omega), List.take_of_length_le (by simp [sumP_length]), kbG_pu _ (by rw [sumP_length]; omega),
      hL _ (by rw [← keyB_length (ints key), keyB, if_pos (by simpa using hc)]), keyB, if_pos (by simpa using hc)]
  · have hl : (ints key).length ≤ 64 := by simp; omega
    rw [bif_f (by simp [zi]; omega), hi, kbG_pu _ hl, ints_pu, hL _ (by rw [← keyB_length (ints key), keyB, if_neg (by omega)]), keyB, if_neg (by omega)]
theorem ok36' : CallOk tau Try.prog 36 s36' := CallOk.mk' fun xs es k res hl hr => by
  change run36' xs es k = some res at hr
  unfold run36' at hr
  split at hr
  · rename_i kz kf key tz tf text
    obtain ⟨hc, hr⟩ := of_bif hr
    simp only [Bool.and_eq_true, decide_eq_true_eq] at hc
    obtain ⟨⟨a1, a2⟩, h3, h4⟩ := hc
    exact fn_at tabOk F36_ok mixed fo36 bo36 (an36 (r36_0 70)) [.ro] 0 0 (ia36 70) hl rfl ((e36 70 kz kf key tz tf text k).trans ((g36_eq kz kf key tz tf text k a1 a2 h3 h4).trans hr))
  · cases hr
end Go.Proofs.Ytcklhipdldpkhaa.Rx
