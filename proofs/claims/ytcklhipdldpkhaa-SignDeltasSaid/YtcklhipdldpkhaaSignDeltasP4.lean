/- What the functions of this law compute, and their plain laws. Conditions: none. -/
import Derived.Test.YtcklhipdldpkhaaSignDeltasP3
namespace Go.Proofs.Ytcklhipdldpkhaa.Rx
noncomputable section
open Go
set_option linter.unusedVariables false
set_option linter.unusedSimpArgs false
set_option maxRecDepth 100000
set_option maxHeartbeats 0
def F52 : Fns := JC 107 JtI (JC 106 Jtv (JC 105 JB8 (JC 88 s88 (JC 87 JyA (JC 86 JuB (JC 84 Jpe (JC 83 Jpg (JC 82 s82 (F0)))))))))
theorem Jwt : Ju tau Try.prog F52 := (((((((((JB).add JBr JBq).add Jmu Juz).add Jmt Jux).add Jr7 Jyc).add JyB JD5).add JBx JBw).add JB9 JB7).add Jwl JBA).add Jwq JBY
def JqU : An := (.seq .leaf (.seq .leaf (.seq .leaf (.seq .leaf (.seq .leaf (.seq .leaf (.seq .leaf (.seq .leaf (.seq .leaf (.seq .leaf (.seq (.seq .leaf (.cond .leaf .leaf)) (.seq (.seq .leaf (.cond .leaf .leaf)) (.seq (.seq .leaf (.cond (.seq .leaf .leaf) .leaf)) (.seq .leaf .leaf))))))))))))))
def g52 (f : Nat) (b_z b_f : Bool) (b : List PV) (k : Res -> Option Res) : Option Res := bif okT (RT.mk b 0 0) then bif okT (Ja 8 (RT.mk b 0 0)) then bif okT (Ja 8 (Ja 8 (RT.mk b 0 0))) then bif okT (Ja 8 (Ja 8 (Ja 8 (RT.mk b 0 0)))) then bif okT (Ja 8 (Ja 8 (Ja 8 (Ja 8 (RT.mk b 0 0))))) then bif okT (hashT (Ja 8 (Ja 8 (Ja 8 (Ja 8 (RT.mk b 0 0)))))) then bif okT (Ja 1 (hashT (Ja 8 (Ja 8 (Ja 8 (Ja 8 (RT.mk b 0 0))))))) then bif okT (J3 (Ja 1 (hashT (Ja 8 (Ja 8 (Ja 8 (Ja 8 (RT.mk b 0 0)))))))) then bif okT (Ja 8 (J3 (Ja 1 (hashT (Ja 8 (Ja 8 (Ja 8 (Ja 8 (RT.mk b 0 0))))))))) then bif (Ja 8 (Ja 8 (J3 (Ja 1 (hashT (Ja 8 (Ja 8 (Ja 8 (Ja 8 (RT.mk b 0 0)))))))))).e == 0 then bif decide ((Ja 8 (Ja 8 (J3 (Ja 1 (hashT (Ja 8 (Ja 8 (Ja 8 (Ja 8 (RT.mk b 0 0)))))))))).P < zi (Ja 8 (Ja 8 (J3 (Ja 1 (hashT (Ja 8 (Ja 8 (Ja 8 (Ja 8 (RT.mk b 0 0)))))))))).B.length) then k (Res.mk (.tup [.st 73 [.st 45 [.sc (.int .i64 0), .sc (.int .i64 0)], .sc (.int .i64 0), .sc (.int .i64 0), .ar 37 [.sc (.int .u8 0), .sc (.int .u8 0), .sc (.int .u8 0), .sc (.int .u8 0), .sc (.int .u8 0), .sc (.int .u8 0), .sc (.int .u8 0), .sc (.int .u8 0), .sc (.int .u8 0), .sc (.int .u8 0), .sc (.int .u8 0), .sc (.int .u8 0), .sc (.int .u8 0), .sc (.int .u8 0), .sc (.int .u8 0), .sc (.int .u8 0), .sc (.int .u8 0), .sc (.int .u8 0), .sc (.int .u8 0), .sc (.int .u8 0), .sc (.int .u8 0), .sc (.int .u8 0), .sc (.int .u8 0), .sc (.int .u8 0), .sc (.int .u8 0), .sc (.int .u8 0), .sc (.int .u8 0), .sc (.int .u8 0), .sc (.int .u8 0), .sc (.int .u8 0), .sc (.int .u8 0), .sc (.int .u8 0)], .sc (.int .i64 0), .ro 99 true true [], .st 45 [.sc (.int .i64 0), .sc (.int .i64 0)]], .sc (.int .i64 9)]) [] []) else bif (Ja 8 (Ja 8 (J3 (Ja 1 (hashT (Ja 8 (Ja 8 (Ja 8 (Ja 8 (RT.mk b 0 0)))))))))).e == 0 then bif Jl (JM (Ja 1 (hashT (Ja 8 (Ja 8 (Ja 8 (Ja 8 (RT.mk b 0 0)))))))).size 1 && true then bif byB (List.take (JM (Ja 1 (hashT (Ja 8 (Ja 8 (Ja 8 (Ja 8 (RT.mk b 0 0)))))))).size (Jj (JM (Ja 1 (hashT (Ja 8 (Ja 8 (Ja 8 (Ja 8 (RT.mk b 0 0)))))))))) && (List.take (JM (Ja 1 (hashT (Ja 8 (Ja 8 (Ja 8 (Ja 8 (RT.mk b 0 0)))))))).size (List.drop 0 (Jj (JM (Ja 1 (hashT (Ja 8 (Ja 8 (Ja 8 (Ja 8 (RT.mk b 0 0))))))))))).length.ble 1000000000 then bif opE (List.take (JM (Ja 1 (hashT (Ja 8 (Ja 8 (Ja 8 (Ja 8 (RT.mk b 0 0)))))))).size (Jj (JM (Ja 1 (hashT (Ja 8 (Ja 8 (Ja 8 (Ja 8 (RT.mk b 0 0)))))))))) == 0 then bif cOk (opL (List.take (JM (Ja 1 (hashT (Ja 8 (Ja 8 (Ja 8 (Ja 8 (RT.mk b 0 0)))))))).size (Jj (JM (Ja 1 (hashT (Ja 8 (Ja 8 (Ja 8 (Ja 8 (RT.mk b 0 0))))))))))) then bif dCk (DV.mk (Jy 8 (RT.mk b 0 0)) (Jy 8 (Ja 8 (RT.mk b 0 0))) (Jy 8 (Ja 8 (Ja 8 (RT.mk b 0 0)))) (Jy 8 (Ja 8 (Ja 8 (Ja 8 (RT.mk b 0 0))))) (pu IntKind.u8 (hashVT (Ja 8 (Ja 8 (Ja 8 (Ja 8 (RT.mk b 0 0))))))) (Jy 1 (hashT (Ja 8 (Ja 8 (Ja 8 (Ja 8 (RT.mk b 0 0))))))) (opL (List.take (JM (Ja 1 (hashT (Ja 8 (Ja 8 (Ja 8 (Ja 8 (RT.mk b 0 0)))))))).size (Jj (JM (Ja 1 (hashT (Ja 8 (Ja 8 (Ja 8 (Ja 8 (RT.mk b 0 0))))))))))) (Jy 8 (J3 (Ja 1 (hashT (Ja 8 (Ja 8 (Ja 8 (Ja 8 (RT.mk b 0 0))))))))) (Jy 8 (Ja 8 (J3 (Ja 1 (hashT (Ja 8 (Ja 8 (Ja 8 (Ja 8 (RT.mk b 0 0))))))))))) != 0 then k (Res.mk (.tup [.st 73 [.st 45 [.sc (.int .i64 0), .sc (.int .i64 0)], .sc (.int .i64 0), .sc (.int .i64 0), .ar 37 [.sc (.int .u8 0), .sc (.int .u8 0), .sc (.int .u8 0), .sc (.int .u8 0), .sc (.int .u8 0), .sc (.int .u8 0), .sc (.int .u8 0), .sc (.int .u8 0), .sc (.int .u8 0), .sc (.int .u8 0), .sc (.int .u8 0), .sc (.int .u8 0), .sc (.int .u8 0), .sc (.int .u8 0), .sc (.int .u8 0), .sc (.int .u8 0), .sc (.int .u8 0), .sc (.int .u8 0), .sc (.int .u8 0), .sc (.int .u8 0), .sc (.int .u8 0), .sc (.int .u8 0), .sc (.int .u8 0), .sc (.int .u8 0), .sc (.int .u8 0), .sc (.int .u8 0), .sc (.int .u8 0), .sc (.int .u8 0), .sc (.int .u8 0), .sc (.int .u8 0), .sc (.int .u8 0), .sc (.int .u8 0)], .sc (.int .i64 0), .ro 99 true true [], .st 45 [.sc (.int .i64 0), .sc (.int .i64 0)]], .sc (.int .i64 (dCk (DV.mk (Jy 8 (RT.mk b 0 0)) (Jy 8 (Ja 8 (RT.mk b 0 0))) (Jy 8 (Ja 8 (Ja 8 (RT.mk b 0 0)))) (Jy 8 (Ja 8 (Ja 8 (Ja 8 (RT.mk b 0 0))))) (pu IntKind.u8 (hashVT (Ja 8 (Ja 8 (Ja 8 (Ja 8 (RT.mk b 0 0))))))) (Jy 1 (hashT (Ja 8 (Ja 8 (Ja 8 (Ja 8 (RT.mk b 0 0))))))) (opL (List.take (JM (Ja 1 (hashT (Ja 8 (Ja 8 (Ja 8 (Ja 8 (RT.mk b 0 0)))))))).size (Jj (JM (Ja 1 (hashT (Ja 8 (Ja 8 (Ja 8 (Ja 8 (RT.mk b 0 0))))))))))) (Jy 8 (J3 (Ja 1 (hashT (Ja 8 (Ja 8 (Ja 8 (Ja 8 (RT.mk b 0 0))))))))) (Jy 8 (Ja 8 (J3 (Ja 1 (hashT (Ja 8 (Ja 8 (Ja 8 (Ja 8 (RT.mk b 0 0)))))))))))))]) [] []) else k (Res.mk (.tup [.st 73 [.st 45 [.sc (.int .i64 (Jy 8 (RT.mk b 0 0))), .sc (.int .i64 (Jy 8 (Ja 8 (RT.mk b 0 0))))], .sc (.int .i64 (Jy 8 (Ja 8 (Ja 8 (RT.mk b 0 0))))), .sc (.int .i64 (Jy 8 (Ja 8 (Ja 8 (Ja 8 (RT.mk b 0 0)))))), .ar 37 (pu IntKind.u8 (hashVT (Ja 8 (Ja 8 (Ja 8 (Ja 8 (RT.mk b 0 0))))))), .sc (.int .i64 (Jy 1 (hashT (Ja 8 (Ja 8 (Ja 8 (Ja 8 (RT.mk b 0 0)))))))), .ro 99 (opL (List.take (JM (Ja 1 (hashT (Ja 8 (Ja 8 (Ja 8 (Ja 8 (RT.mk b 0 0)))))))).size (Jj (JM (Ja 1 (hashT (Ja 8 (Ja 8 (Ja 8 (Ja 8 (RT.mk b 0 0))))))))))).isEmpty (opF (List.take (JM (Ja 1 (hashT (Ja 8 (Ja 8 (Ja 8 (Ja 8 (RT.mk b 0 0)))))))).size (Jj (JM (Ja 1 (hashT (Ja 8 (Ja 8 (Ja 8 (Ja 8 (RT.mk b 0 0))))))))))) (opL (List.take (JM (Ja 1 (hashT (Ja 8 (Ja 8 (Ja 8 (Ja 8 (RT.mk b 0 0)))))))).size (Jj (JM (Ja 1 (hashT (Ja 8 (Ja 8 (Ja 8 (Ja 8 (RT.mk b 0 0))))))))))), .st 45 [.sc (.int .i64 (Jy 8 (J3 (Ja 1 (hashT (Ja 8 (Ja 8 (Ja 8 (Ja 8 (RT.mk b 0 0)))))))))), .sc (.int .i64 (Jy 8 (Ja 8 (J3 (Ja 1 (hashT (Ja 8 (Ja 8 (Ja 8 (Ja 8 (RT.mk b 0 0)))))))))))]], .sc (.int .i64 0)]) [] []) else none else bif opE (List.take (JM (Ja 1 (hashT (Ja 8 (Ja 8 (Ja 8 (Ja 8 (RT.mk b 0 0)))))))).size (Jj (JM (Ja 1 (hashT (Ja 8 (Ja 8 (Ja 8 (Ja 8 (RT.mk b 0 0)))))))))) != 0 then k (Res.mk (.tup [.st 73 [.st 45 [.sc (.int .i64 0), .sc (.int .i64 0)], .sc (.int .i64 0), .sc (.int .i64 0), .ar 37 [.sc (.int .u8 0), .sc (.int .u8 0), .sc (.int .u8 0), .sc (.int .u8 0), .sc (.int .u8 0), .sc (.int .u8 0), .sc (.int .u8 0), .sc (.int .u8 0), .sc (.int .u8 0), .sc (.int .u8 0), .sc (.int .u8 0), .sc (.int .u8 0), .sc (.int .u8 0), .sc (.int .u8 0), .sc (.int .u8 0), .sc (.int .u8 0), .sc (.int .u8 0), .sc (.int .u8 0), .sc (.int .u8 0), .sc (.int .u8 0), .sc (.int .u8 0), .sc (.int .u8 0), .sc (.int .u8 0), .sc (.int .u8 0), .sc (.int .u8 0), .sc (.int .u8 0), .sc (.int .u8 0), .sc (.int .u8 0), .sc (.int .u8 0), .sc (.int .u8 0), .sc (.int .u8 0), .sc (.int .u8 0)], .sc (.int .i64 0), .ro 99 true true [], .st 45 [.sc (.int .i64 0), .sc (.int .i64 0)]], .sc (.int .i64 (opE (List.take (JM (Ja 1 (hashT (Ja 8 (Ja 8 (Ja 8 (Ja 8 (RT.mk b 0 0)))))))).size (Jj (JM (Ja 1 (hashT (Ja 8 (Ja 8 (Ja 8 (Ja 8 (RT.mk b 0 0))))))))))))]) [] []) else k (Res.mk (.tup [.st 73 [.st 45 [.sc (.int .i64 (Jy 8 (RT.mk b 0 0))), .sc (.int .i64 (Jy 8 (Ja 8 (RT.mk b 0 0))))], .sc (.int .i64 (Jy 8 (Ja 8 (Ja 8 (RT.mk b 0 0))))), .sc (.int .i64 (Jy 8 (Ja 8 (Ja 8 (Ja 8 (RT.mk b 0 0)))))), .ar 37 (pu IntKind.u8 (hashVT (Ja 8 (Ja 8 (Ja 8 (Ja 8 (RT.mk b 0 0))))))), .sc (.int .i64 (Jy 1 (hashT (Ja 8 (Ja 8 (Ja 8 (Ja 8 (RT.mk b 0 0)))))))), .ro 99 (opL (List.take (JM (Ja 1 (hashT (Ja 8 (Ja 8 (Ja 8 (Ja 8 (RT.mk b 0 0)))))))).size (Jj (JM (Ja 1 (hashT (Ja 8 (Ja 8 (Ja 8 (Ja 8 (RT.mk b 0 0))))))))))).isEmpty (opF (List.take (JM (Ja 1 (hashT (Ja 8 (Ja 8 (Ja 8 (Ja 8 (RT.mk b 0 0)))))))).size (Jj (JM (Ja 1 (hashT (Ja 8 (Ja 8 (Ja 8 (Ja 8 (RT.mk b 0 0))))))))))) (opL (List.take (JM (Ja 1 (hashT (Ja 8 (Ja 8 (Ja 8 (Ja 8 (RT.mk b 0 0)))))))).size (Jj (JM (Ja 1 (hashT (Ja 8 (Ja 8 (Ja 8 (Ja 8 (RT.mk b 0 0))))))))))), .st 45 [.sc (.int .i64 (Jy 8 (J3 (Ja 1 (hashT (Ja 8 (Ja 8 (Ja 8 (Ja 8 (RT.mk b 0 0)))))))))), .sc (.int .i64 (Jy 8 (Ja 8 (J3 (Ja 1 (hashT (Ja 8 (Ja 8 (Ja 8 (Ja 8 (RT.mk b 0 0)))))))))))]], .sc (.int .i64 0)]) [] []) else none else none else bif (Ja 8 (Ja 8 (J3 (Ja 1 (hashT (Ja 8 (Ja 8 (Ja 8 (Ja 8 (RT.mk b 0 0)))))))))).e == 0 then bif cOk [] then bif dCk (DV.mk (Jy 8 (RT.mk b 0 0)) (Jy 8 (Ja 8 (RT.mk b 0 0))) (Jy 8 (Ja 8 (Ja 8 (RT.mk b 0 0)))) (Jy 8 (Ja 8 (Ja 8 (Ja 8 (RT.mk b 0 0))))) (pu IntKind.u8 (hashVT (Ja 8 (Ja 8 (Ja 8 (Ja 8 (RT.mk b 0 0))))))) (Jy 1 (hashT (Ja 8 (Ja 8 (Ja 8 (Ja 8 (RT.mk b 0 0))))))) [] (Jy 8 (J3 (Ja 1 (hashT (Ja 8 (Ja 8 (Ja 8 (Ja 8 (RT.mk b 0 0))))))))) (Jy 8 (Ja 8 (J3 (Ja 1 (hashT (Ja 8 (Ja 8 (Ja 8 (Ja 8 (RT.mk b 0 0))))))))))) != 0 then k (Res.mk (.tup [.st 73 [.st 45 [.sc (.int .i64 0), .sc (.int .i64 0)], .sc (.int .i64 0), .sc (.int .i64 0), .ar 37 [.sc (.int .u8 0), .sc (.int .u8 0), .sc (.int .u8 0), .sc (.int .u8 0), .sc (.int .u8 0), .sc (.int .u8 0), .sc (.int .u8 0), .sc (.int .u8 0), .sc (.int .u8 0), .sc (.int .u8 0), .sc (.int .u8 0), .sc (.int .u8 0), .sc (.int .u8 0), .sc (.int .u8 0), .sc (.int .u8 0), .sc (.int .u8 0), .sc (.int .u8 0), .sc (.int .u8 0), .sc (.int .u8 0), .sc (.int .u8 0), .sc (.int .u8 0), .sc (.int .u8 0), .sc (.int .u8 0), .sc (.int .u8 0), .sc (.int .u8 0), .sc (.int .u8 0), .sc (.int .u8 0), .sc (.int .u8 0), .sc (.int .u8 0), .sc (.int .u8 0), .sc (.int .u8 0), .sc (.int .u8 0)], .sc (.int .i64 0), .ro 99 true true [], .st 45 [.sc (.int .i64 0), .sc (.int .i64 0)]], .sc (.int .i64 (dCk (DV.mk (Jy 8 (RT.mk b 0 0)) (Jy 8 (Ja 8 (RT.mk b 0 0))) (Jy 8 (Ja 8 (Ja 8 (RT.mk b 0 0)))) (Jy 8 (Ja 8 (Ja 8 (Ja 8 (RT.mk b 0 0))))) (pu IntKind.u8 (hashVT (Ja 8 (Ja 8 (Ja 8 (Ja 8 (RT.mk b 0 0))))))) (Jy 1 (hashT (Ja 8 (Ja 8 (Ja 8 (Ja 8 (RT.mk b 0 0))))))) [] (Jy 8 (J3 (Ja 1 (hashT (Ja 8 (Ja 8 (Ja 8 (Ja 8 (RT.mk b 0 0))))))))) (Jy 8 (Ja 8 (J3 (Ja 1 (hashT (Ja 8 (Ja 8 (Ja 8 (Ja 8 (RT.mk b 0 0)))))))))))))]) [] []) else k (Res.mk (.tup [.st 73 [.st 45 [.sc (.int .i64 (Jy 8 (RT.mk b 0 0))), .sc (.int .i64 (Jy 8 (Ja 8 (RT.mk b 0 0))))], .sc (.int .i64 (Jy 8 (Ja 8 (Ja 8 (RT.mk b 0 0))))), .sc (.int .i64 (Jy 8 (Ja 8 (Ja 8 (Ja 8 (RT.mk b 0 0)))))), .ar 37 (pu IntKind.u8 (hashVT (Ja 8 (Ja 8 (Ja 8 (Ja 8 (RT.mk b 0 0))))))), .sc (.int .i64 (Jy 1 (hashT (Ja 8 (Ja 8 (Ja 8 (Ja 8 (RT.mk b 0 0)))))))), .ro 99 true true [], .st 45 [.sc (.int .i64 (Jy 8 (J3 (Ja 1 (hashT (Ja 8 (Ja 8 (Ja 8 (Ja 8 (RT.mk b 0 0)))))))))), .sc (.int .i64 (Jy 8 (Ja 8 (J3 (Ja 1 (hashT (Ja 8 (Ja 8 (Ja 8 (Ja 8 (RT.mk b 0 0)))))))))))]], .sc (.int .i64 0)]) [] []) else none else bif (Ja 8 (Ja 8 (J3 (Ja 1 (hashT (Ja 8 (Ja 8 (Ja 8 (Ja 8 (RT.mk b 0 0)))))))))).e != 0 then k (Res.mk (.tup [.st 73 [.st 45 [.sc (.int .i64 0), .sc (.int .i64 0)], .sc (.int .i64 0), .sc (.int .i64 0), .ar 37 [.sc (.int .u8 0), .sc (.int .u8 0), .sc (.int .u8 0), .sc (.int .u8 0), .sc (.int .u8 0), .sc (.int .u8 0), .sc (.int .u8 0), .sc (.int .u8 0), .sc (.int .u8 0), .sc (.int .u8 0), .sc (.int .u8 0), .sc (.int .u8 0), .sc (.int .u8 0), .sc (.int .u8 0), .sc (.int .u8 0), .sc (.int .u8 0), .sc (.int .u8 0), .sc (.int .u8 0), .sc (.int .u8 0), .sc (.int .u8 0), .sc (.int .u8 0), .sc (.int .u8 0), .sc (.int .u8 0), .sc (.int .u8 0), .sc (.int .u8 0), .sc (.int .u8 0), .sc (.int .u8 0), .sc (.int .u8 0), .sc (.int .u8 0), .sc (.int .u8 0), .sc (.int .u8 0), .sc (.int .u8 0)], .sc (.int .i64 0), .ro 99 true true [], .st 45 [.sc (.int .i64 0), .sc (.int .i64 0)]], .sc (.int .i64 (Ja 8 (Ja 8 (J3 (Ja 1 (hashT (Ja 8 (Ja 8 (Ja 8 (Ja 8 (RT.mk b 0 0)))))))))).e)]) [] []) else k (Res.mk (.tup [.st 73 [.st 45 [.sc (.int .i64 (Jy 8 (RT.mk b 0 0))), .sc (.int .i64 (Jy 8 (Ja 8 (RT.mk b 0 0))))], .sc (.int .i64 (Jy 8 (Ja 8 (Ja 8 (RT.mk b 0 0))))), .sc (.int .i64 (Jy 8 (Ja 8 (Ja 8 (Ja 8 (RT.mk b 0 0)))))), .ar 37 (pu IntKind.u8 (hashVT (Ja 8 (Ja 8 (Ja 8 (Ja 8 (RT.mk b 0 0))))))), .sc (.int .i64 (Jy 1 (hashT (Ja 8 (Ja 8 (Ja 8 (Ja 8 (RT.mk b 0 0)))))))), .ro 99 true true [], .st 45 [.sc (.int .i64 (Jy 8 (J3 (Ja 1 (hashT (Ja 8 (Ja 8 (Ja 8 (Ja 8 (RT.mk b 0 0)))))))))), .sc (.int .i64 (Jy 8 (Ja 8 (J3 (Ja 1 (hashT (Ja 8 (Ja 8 (Ja 8 (Ja 8 (RT.mk b 0 0)))))))))))]], .sc (.int .i64 0)]) [] []) else bif (Ja 8 (Ja 8 (J3 (Ja 1 (hashT (Ja 8 (Ja 8 (Ja 8 (Ja 8 (RT.mk b 0 0)))))))))).e == 0 then bif Jl (JM (Ja 1 (hashT (Ja 8 (Ja 8 (Ja 8 (Ja 8 (RT.mk b 0 0)))))))).size 1 && true then bif byB (List.take (JM (Ja 1 (hashT (Ja 8 (Ja 8 (Ja 8 (Ja 8 (RT.mk b 0 0)))))))).size (Jj (JM (Ja 1 (hashT (Ja 8 (Ja 8 (Ja 8 (Ja 8 (RT.mk b 0 0)))))))))) && (List.take (JM (Ja 1 (hashT (Ja 8 (Ja 8 (Ja 8 (Ja 8 (RT.mk b 0 0)))))))).size (List.drop 0 (Jj (JM (Ja 1 (hashT (Ja 8 (Ja 8 (Ja 8 (Ja 8 (RT.mk b 0 0))))))))))).length.ble 1000000000 then bif opE (List.take (JM (Ja 1 (hashT (Ja 8 (Ja 8 (Ja 8 (Ja 8 (RT.mk b 0 0)))))))).size (Jj (JM (Ja 1 (hashT (Ja 8 (Ja 8 (Ja 8 (Ja 8 (RT.mk b 0 0)))))))))) == 0 then bif cOk (opL (List.take (JM (Ja 1 (hashT (Ja 8 (Ja 8 (Ja 8 (Ja 8 (RT.mk b 0 0)))))))).size (Jj (JM (Ja 1 (hashT (Ja 8 (Ja 8 (Ja 8 (Ja 8 (RT.mk b 0 0))))))))))) then bif dCk (DV.mk (Jy 8 (RT.mk b 0 0)) (Jy 8 (Ja 8 (RT.mk b 0 0))) (Jy 8 (Ja 8 (Ja 8 (RT.mk b 0 0)))) (Jy 8 (Ja 8 (Ja 8 (Ja 8 (RT.mk b 0 0))))) (pu IntKind.u8 (hashVT (Ja 8 (Ja 8 (Ja 8 (Ja 8 (RT.mk b 0 0))))))) (Jy 1 (hashT (Ja 8 (Ja 8 (Ja 8 (Ja 8 (RT.mk b 0 0))))))) (opL (List.take (JM (Ja 1 (hashT (Ja 8 (Ja 8 (Ja 8 (Ja 8 (RT.mk b 0 0)))))))).size (Jj (JM (Ja 1 (hashT (Ja 8 (Ja 8 (Ja 8 (Ja 8 (RT.mk b 0 0))))))))))) (Jy 8 (J3 (Ja 1 (hashT (Ja 8 (Ja 8 (Ja 8 (Ja 8 (RT.mk b 0 0))))))))) (Jy 8 (Ja 8 (J3 (Ja 1 (hashT (Ja 8 (Ja 8 (Ja 8 (Ja 8 (RT.mk b 0 0))))))))))) != 0 then k (Res.mk (.tup [.st 73 [.st 45 [.sc (.int .i64 0), .sc (.int .i64 0)], .sc (.int .i64 0), .sc (.int .i64 0), .ar 37 [.sc (.int .u8 0), .sc (.int .u8 0), .sc (.int .u8 0), .sc (.int .u8 0), .sc (.int .u8 0), .sc (.int .u8 0), .sc (.int .u8 0), .sc (.int .u8 0), .sc (.int .u8 0), .sc (.int .u8 0), .sc (.int .u8 0), .sc (.int .u8 0), .sc (.int .u8 0), .sc (.int .u8 0), .sc (.int .u8 0), .sc (.int .u8 0), .sc (.int .u8 0), .sc (.int .u8 0), .sc (.int .u8 0), .sc (.int .u8 0), .sc (.int .u8 0), .sc (.int .u8 0), .sc (.int .u8 0), .sc (.int .u8 0), .sc (.int .u8 0), .sc (.int .u8 0), .sc (.int .u8 0), .sc (.int .u8 0), .sc (.int .u8 0), .sc (.int .u8 0), .sc (.int .u8 0), .sc (.int .u8 0)], .sc (.int .i64 0), .ro 99 true true [], .st 45 [.sc (.int .i64 0), .sc (.int .i64 0)]], .sc (.int .i64 (dCk (DV.mk (Jy 8 (RT.mk b 0 0)) (Jy 8 (Ja 8 (RT.mk b 0 0))) (Jy 8 (Ja 8 (Ja 8 (RT.mk b 0 0)))) (Jy 8 (Ja 8 (Ja 8 (Ja 8 (RT.mk b 0 0))))) (pu IntKind.u8 (hashVT (Ja 8 (Ja 8 (Ja 8 (Ja 8 (RT.mk b 0 0))))))) (Jy 1 (hashT (Ja 8 (Ja 8 (Ja 8 (Ja 8 (RT.mk b 0 0))))))) (opL (List.take (JM (Ja 1 (hashT (Ja 8 (Ja 8 (Ja 8 (Ja 8 (RT.mk b 0 0)))))))).size (Jj (JM (Ja 1 (hashT (Ja 8 (Ja 8 (Ja 8 (Ja 8 (RT.mk b 0 0))))))))))) (Jy 8 (J3 (Ja 1 (hashT (Ja 8 (Ja 8 (Ja 8 (Ja 8 (RT.mk b 0 0))))))))) (Jy 8 (Ja 8 (J3 (Ja 1 (hashT (Ja 8 (Ja 8 (Ja 8 (Ja 8 (RT.mk b 0 0)))))))))))))]) [] []) else k (Res.mk (.tup [.st 73 [.st 45 [.sc (.int .i64 (Jy 8 (RT.mk b 0 0))), .sc (.int .i64 (Jy 8 (Ja 8 (RT.mk b 0 0))))], .sc (.int .i64 (Jy 8 (Ja 8 (Ja 8 (RT.mk b 0 0))))), .sc (.int .i64 (Jy 8 (Ja 8 (Ja 8 (Ja 8 (RT.mk b 0 0)))))), .ar 37 (pu IntKind.u8 (hashVT (Ja 8 (Ja 8 (Ja 8 (Ja 8 (RT.mk b 0 0))))))), .sc (.int .i64 (Jy 1 (hashT (Ja 8 (Ja 8 (Ja 8 (Ja 8 (RT.mk b 0 0)))))))), .ro 99 (opL (List.take (JM (Ja 1 (hashT (Ja 8 (Ja 8 (Ja 8 (Ja 8 (RT.mk b 0 0)))))))).size (Jj (JM (Ja 1 (hashT (Ja 8 (Ja 8 (Ja 8 (Ja 8 (RT.mk b 0 0))))))))))).isEmpty (opF (List.take (JM (Ja 1 (hashT (Ja 8 (Ja 8 (Ja 8 (Ja 8 (RT.mk b 0 0)))))))).size (Jj (JM (Ja 1 (hashT (Ja 8 (Ja 8 (Ja 8 (Ja 8 (RT.mk b 0 0))))))))))) (opL (List.take (JM (Ja 1 (hashT (Ja 8 (Ja 8 (Ja 8 (Ja 8 (RT.mk b 0 0)))))))).size (Jj (JM (Ja 1 (hashT (Ja 8 (Ja 8 (Ja 8 (Ja 8 (RT.mk b 0 0))))))))))), .st 45 [.sc (.int .i64 (Jy 8 (J3 (Ja 1 (hashT (Ja 8 (Ja 8 (Ja 8 (Ja 8 (RT.mk b 0 0)))))))))), .sc (.int .i64 (Jy 8 (Ja 8 (J3 (Ja 1 (hashT (Ja 8 (Ja 8 (Ja 8 (Ja 8 (RT.mk b 0 0)))))))))))]], .sc (.int .i64 0)]) [] []) else none else bif opE (List.take (JM (Ja 1 (hashT (Ja 8 (Ja 8 (Ja 8 (Ja 8 (RT.mk b 0 0)))))))).size (Jj (JM (Ja 1 (hashT (Ja 8 (Ja 8 (Ja 8 (Ja 8 (RT.mk b 0 0)))))))))) != 0 then k (Res.mk (.tup [.st 73 [.st 45 [.sc (.int .i64 0), .sc (.int .i64 0)], .sc (.int .i64 0), .sc (.int .i64 0), .ar 37 [.sc (.int .u8 0), .sc (.int .u8 0), .sc (.int .u8 0), .sc (.int .u8 0), .sc (.int .u8 0), .sc (.int .u8 0), .sc (.int .u8 0), .sc (.int .u8 0), .sc (.int .u8 0), .sc (.int .u8 0), .sc (.int .u8 0), .sc (.int .u8 0), .sc (.int .u8 0), .sc (.int .u8 0), .sc (.int .u8 0), .sc (.int .u8 0), .sc (.int .u8 0), .sc (.int .u8 0), .sc (.int .u8 0), .sc (.int .u8 0), .sc (.int .u8 0), .sc (.int .u8 0), .sc (.int .u8 0), .sc (.int .u8 0), .sc (.int .u8 0), .sc (.int .u8 0), .sc (.int .u8 0), .sc (.int .u8 0), .sc (.int .u8 0), .sc (.int .u8 0), .sc (.int .u8 0), .sc (.int .u8 0)], .sc (.int .i64 0), .ro 99 true true [], .st 45 [.sc (.int .i64 0), .sc (.int .i64 0)]], .sc (.int .i64 (opE (List.take (JM (Ja 1 (hashT (Ja 8 (Ja 8 (Ja 8 (Ja 8 (RT.mk b 0 0)))))))).size (Jj (JM (Ja 1 (hashT (Ja 8 (Ja 8 (Ja 8 (Ja 8 (RT.mk b 0 0))))))))))))]) [] []) else k (Res.mk (.tup [.st 73 [.st 45 [.sc (.int .i64 (Jy 8 (RT.mk b 0 0))), .sc (.int .i64 (Jy 8 (Ja 8 (RT.mk b 0 0))))], .sc (.int .i64 (Jy 8 (Ja 8 (Ja 8 (RT.mk b 0 0))))), .sc (.int .i64 (Jy 8 (Ja 8 (Ja 8 (Ja 8 (RT.mk b 0 0)))))), .ar 37 (pu IntKind.u8 (hashVT (Ja 8 (Ja 8 (Ja 8 (Ja 8 (RT.mk b 0 0))))))), .sc (.int .i64 (Jy 1 (hashT (Ja 8 (Ja 8 (Ja 8 (Ja 8 (RT.mk b 0 0)))))))), .ro 99 (opL (List.take (JM (Ja 1 (hashT (Ja 8 (Ja 8 (Ja 8 (Ja 8 (RT.mk b 0 0)))))))).size (Jj (JM (Ja 1 (hashT (Ja 8 (Ja 8 (Ja 8 (Ja 8 (RT.mk b 0 0))))))))))).isEmpty (opF (List.take (JM (Ja 1 (hashT (Ja 8 (Ja 8 (Ja 8 (Ja 8 (RT.mk b 0 0)))))))).size (Jj (JM (Ja 1 (hashT (Ja 8 (Ja 8 (Ja 8 (Ja 8 (RT.mk b 0 0))))))))))) (opL (List.take (JM (Ja 1 (hashT (Ja 8 (Ja 8 (Ja 8 (Ja 8 (RT.mk b 0 0)))))))).size (Jj (JM (Ja 1 (hashT (Ja 8 (Ja 8 (Ja 8 (Ja 8 (RT.mk b 0 0))))))))))), .st 45 [.sc (.int .i64 (Jy 8 (J3 (Ja 1 (hashT (Ja 8 (Ja 8 (Ja 8 (Ja 8 (RT.mk b 0 0)))))))))), .sc (.int .i64 (Jy 8 (Ja 8 (J3 (Ja 1 (hashT (Ja 8 (Ja 8 (Ja 8 (Ja 8 (RT.mk b 0 0)))))))))))]], .sc (.int .i64 0)]) [] []) else none else none else bif (Ja 8 (Ja 8 (J3 (Ja 1 (hashT (Ja 8 (Ja 8 (Ja 8 (Ja 8 (RT.mk b 0 0)))))))))).e == 0 then bif cOk [] then bif dCk (DV.mk (Jy 8 (RT.mk b 0 0)) (Jy 8 (Ja 8 (RT.mk b 0 0))) (Jy 8 (Ja 8 (Ja 8 (RT.mk b 0 0)))) (Jy 8 (Ja 8 (Ja 8 (Ja 8 (RT.mk b 0 0))))) (pu IntKind.u8 (hashVT (Ja 8 (Ja 8 (Ja 8 (Ja 8 (RT.mk b 0 0))))))) (Jy 1 (hashT (Ja 8 (Ja 8 (Ja 8 (Ja 8 (RT.mk b 0 0))))))) [] (Jy 8 (J3 (Ja 1 (hashT (Ja 8 (Ja 8 (Ja 8 (Ja 8 (RT.mk b 0 0))))))))) (Jy 8 (Ja 8 (J3 (Ja 1 (hashT (Ja 8 (Ja 8 (Ja 8 (Ja 8 (RT.mk b 0 0))))))))))) != 0 then k (Res.mk (.tup [.st 73 [.st 45 [.sc (.int .i64 0), .sc (.int .i64 0)], .sc (.int .i64 0), .sc (.int .i64 0), .ar 37 [.sc (.int .u8 0), .sc (.int .u8 0), .sc (.int .u8 0), .sc (.int .u8 0), .sc (.int .u8 0), .sc (.int .u8 0), .sc (.int .u8 0), .sc (.int .u8 0), .sc (.int .u8 0), .sc (.int .u8 0), .sc (.int .u8 0), .sc (.int .u8 0), .sc (.int .u8 0), .sc (.int .u8 0), .sc (.int .u8 0), .sc (.int .u8 0), .sc (.int .u8 0), .sc (.int .u8 0), .sc (.int .u8 0), .sc (.int .u8 0), .sc (.int .u8 0), .sc (.int .u8 0), .sc (.int .u8 0), .sc (.int .u8 0), .sc (.int .u8 0), .sc (.int .u8 0), .sc (.int .u8 0), .sc (.int .u8 0), .sc (.int .u8 0), .sc (.int .u8 0), .sc (.int .u8 0), .sc (.int .u8 0)], .sc (.int .i64 0), .ro 99 true true [], .st 45 [.sc (.int .i64 0), .sc (.int .i64 0)]], .sc (.int .i64 (dCk (DV.mk (Jy 8 (RT.mk b 0 0)) (Jy 8 (Ja 8 (RT.mk b 0 0))) (Jy 8 (Ja 8 (Ja 8 (RT.mk b 0 0)))) (Jy 8 (Ja 8 (Ja 8 (Ja 8 (RT.mk b 0 0))))) (pu IntKind.u8 (hashVT (Ja 8 (Ja 8 (Ja 8 (Ja 8 (RT.mk b 0 0))))))) (Jy 1 (hashT (Ja 8 (Ja 8 (Ja 8 (Ja 8 (RT.mk b 0 0))))))) [] (Jy 8 (J3 (Ja 1 (hashT (Ja 8 (Ja 8 (Ja 8 (Ja 8 (RT.mk b 0 0))))))))) (Jy 8 (Ja 8 (J3 (Ja 1 (hashT (Ja 8 (Ja 8 (Ja 8 (Ja 8 (RT.mk b 0 0)))))))))))))]) [] []) else k (Res.mk (.tup [.st 73 [.st 45 [.sc (.int .i64 (Jy 8 (RT.mk b 0 0))), .sc (.int .i64 (Jy 8 (Ja 8 (RT.mk b 0 0))))], .sc (.int .i64 (Jy 8 (Ja 8 (Ja 8 (RT.mk b 0 0))))), .sc (.int .i64 (Jy 8 (Ja 8 (Ja 8 (Ja 8 (RT.mk b 0 0)))))), .ar 37 (pu IntKind.u8 (hashVT (Ja 8 (Ja 8 (Ja 8 (Ja 8 (RT.mk b 0 0))))))), .sc (.int .i64 (Jy 1 (hashT (Ja 8 (Ja 8 (Ja 8 (Ja 8 (RT.mk b 0 0)))))))), .ro 99 true true [], .st 45 [.sc (.int .i64 (Jy 8 (J3 (Ja 1 (hashT (Ja 8 (Ja 8 (Ja 8 (Ja 8 (RT.mk b 0 0)))))))))), .sc (.int .i64 (Jy 8 (Ja 8 (J3 (Ja 1 (hashT (Ja 8 (Ja 8 (Ja 8 (Ja 8 (RT.mk b 0 0)))))))))))]], .sc (.int .i64 0)]) [] []) else none else bif (Ja 8 (Ja 8 (J3 (Ja 1 (hashT (Ja 8 (Ja 8 (Ja 8 (Ja 8 (RT.mk b 0 0)))))))))).e != 0 then k (Res.mk (.tup [.st 73 [.st 45 [.sc (.int .i64 0), .sc (.int .i64 0)], .sc (.int .i64 0), .sc (.int .i64 0), .ar 37 [.sc (.int .u8 0), .sc (.int .u8 0), .sc (.int .u8 0), .sc (.int .u8 0), .sc (.int .u8 0), .sc (.int .u8 0), .sc (.int .u8 0), .sc (.int .u8 0), .sc (.int .u8 0), .sc (.int .u8 0), .sc (.int .u8 0), .sc (.int .u8 0), .sc (.int .u8 0), .sc (.int .u8 0), .sc (.int .u8 0), .sc (.int .u8 0), .sc (.int .u8 0), .sc (.int .u8 0), .sc (.int .u8 0), .sc (.int .u8 0), .sc (.int .u8 0), .sc (.int .u8 0), .sc (.int .u8 0), .sc (.int .u8 0), .sc (.int .u8 0), .sc (.int .u8 0), .sc (.int .u8 0), .sc (.int .u8 0), .sc (.int .u8 0), .sc (.int .u8 0), .sc (.int .u8 0), .sc (.int .u8 0)], .sc (.int .i64 0), .ro 99 true true [], .st 45 [.sc (.int .i64 0), .sc (.int .i64 0)]], .sc (.int .i64 (Ja 8 (Ja 8 (J3 (Ja 1 (hashT (Ja 8 (Ja 8 (Ja 8 (Ja 8 (RT.mk b 0 0)))))))))).e)]) [] []) else k (Res.mk (.tup [.st 73 [.st 45 [.sc (.int .i64 (Jy 8 (RT.mk b 0 0))), .sc (.int .i64 (Jy 8 (Ja 8 (RT.mk b 0 0))))], .sc (.int .i64 (Jy 8 (Ja 8 (Ja 8 (RT.mk b 0 0))))), .sc (.int .i64 (Jy 8 (Ja 8 (Ja 8 (Ja 8 (RT.mk b 0 0)))))), .ar 37 (pu IntKind.u8 (hashVT (Ja 8 (Ja 8 (Ja 8 (Ja 8 (RT.mk b 0 0))))))), .sc (.int .i64 (Jy 1 (hashT (Ja 8 (Ja 8 (Ja 8 (Ja 8 (RT.mk b 0 0)))))))), .ro 99 true true [], .st 45 [.sc (.int .i64 (Jy 8 (J3 (Ja 1 (hashT (Ja 8 (Ja 8 (Ja 8 (Ja 8 (RT.mk b 0 0)))))))))), .sc (.int .i64 (Jy 8 (Ja 8 (J3 (Ja 1 (hashT (Ja 8 (Ja 8 (Ja 8 (Ja 8 (RT.mk b 0 0)))))))))))]], .sc (.int .i64 0)]) [] []) else none else none else none else none else none else none else none else none else none
theorem e52 (f : Nat) (b_z b_f : Bool) (b : List PV) (k : Res -> Option Res) : JN tau F52 Try.f52 (Try.f52.body.get!) JqU [.ro, .ro] 0 [.ro 5 b_z b_f b] [] k = g52 f b_z b_f b k := by kernel_rfl
theorem JFJ (f : Nat) : Je (Try.f52.body.get!) JqU = [] := by kernel_rfl
theorem JFK (f : Nat) : ∀ q ∈ Je (Try.f52.body.get!) JqU, q.Ok tau Try.prog 0 := by
 rw [JFJ f]; intro q hq; cases hq
theorem JCa : Try.prog.funcs[52]? = some Try.f52 := by kernel_rfl
theorem JCb : Try.f52.body = some (Try.f52.body.get!) := by kernel_rfl
theorem JFL : Enters Try.prog 52 := enters_of JCa (by kernel_rfl) JCb
def JnV : List PV -> List Ent -> (Res -> Option Res) -> Option Res
 | [.ro 5 b_z b_f b], [], k => g52 0 b_z b_f b k
 | _, _, _ => none
def s52 : Sig := { own := [], run := JnV }
theorem JFM : Jf tau Try.prog 52 s52 := JP Jq Jwt Jr JCa JCb JqU [.ro, .ro] 0 [] JnV (JFK 0) fun xs es k res hr => by
 unfold JnV at hr
 split at hr
 · exact ⟨rfl, 0, (e52 0 _ _ _  _).trans hr⟩
 · cases hr
-- FN delta.Parse | ref8.Parse
theorem JiJ (t : ByteArray) : byB (Jj t) = true := by
 unfold byB Jj
 refine List.all_eq_true.2 fun p hp => ?_
 obtain ⟨x, hx, rfl⟩ := List.mem_map.1 hp
 have := x.toNat_lt
 rw [Bool.and_eq_true, Bool.and_eq_true]
 refine ⟨rfl, decide_eq_true ?_, decide_eq_true ?_⟩
 · exact Int.natCast_nonneg _
 · exact Int.ofNat_lt.2 this
def d4 (b : List PV) : RS := Jc 8 (Jc 8 (Jc 8 (Jc 8 ⟨b, 0⟩)))
def d5 (b : List PV) : RS := hashS (d4 b)
def d7 (b : List PV) : RS := J9 (Jc 1 (d5 b))
def d9 (b : List PV) : RS := Jc 8 (Jc 8 (d7 b))
def dt (b : List PV) : List PV := Jj (JS (Jc 1 (d5 b)))
def dv (b : List PV) : DV := ⟨Jw 8 ⟨b, 0⟩, Jw 8 (Jc 8 ⟨b, 0⟩), Jw 8 (Jc 8 (Jc 8 ⟨b, 0⟩)), Jw 8 (Jc 8 (Jc 8 (Jc 8 ⟨b, 0⟩))), pu .u8 (hashV (d4 b)), Jw 1 (d5 b), opL (dt b), Jw 8 (d7 b), Jw 8 (Jc 8 (d7 b))⟩
def dE0 (b : List PV) : Int := bif (d9 b).e == 0 then (bif decide ((d9 b).b.length > 0) then 9 else bif opE (dt b) == 0 then dCk (dv b) else opE (dt b)) else (d9 b).e
def dE : List PV -> Int := hid dE0
def dN (b : List PV) : Nat -> Int
 | 0 => (dv b).ad
 | 1 => (dv b).au
 | 2 => (dv b).id
 | 3 => (dv b).ve
 | 4 => (dv b).kd
 | 5 => (dv b).wd
 | _ => (dv b).wu
def dF : Nat -> List PV -> Int := hid fun i b => bif dE0 b == 0 then dN b i else 0
def dH : List PV -> List Int := hid fun b => bif dE0 b == 0 then hashV (d4 b) else List.replicate 32 0
def dO : List PV -> List PV := hid fun b => bif dE0 b == 0 then opL (dt b) else []
def dOF : List PV -> Bool := hid fun b => !(dE0 b == 0)
theorem Ja3 (b : List PV) : dE b = dE0 b := by rw [dE, hid_eq]
theorem JdH (i : Nat) (b : List PV) : dF i b = bif dE0 b == 0 then dN b i else 0 := by rw [dF, hid_eq]
theorem JdI (b : List PV) : dH b = bif dE0 b == 0 then hashV (d4 b) else List.replicate 32 0 := by rw [dH, hid_eq]
theorem JdJ (b : List PV) : dO b = bif dE0 b == 0 then opL (dt b) else [] := by rw [dO, hid_eq]
theorem JiK (b : List PV) : dOF b = !(dE0 b == 0) := by rw [dOF, hid_eq]
def Ja4 (e : Int) : PV := .tup [.st 73 [.st 45 [.sc (.int .i64 0), .sc (.int .i64 0)], .sc (.int .i64 0), .sc (.int .i64 0), .ar 37 (pu .u8 (List.replicate 32 0)), .sc (.int .i64 0), .ro 99 true true [], .st 45 [.sc (.int .i64 0), .sc (.int .i64 0)]], .sc (.int .i64 e)]
def dP (b : List PV) : PV := .tup [.st 73 [.st 45 [.sc (.int .i64 (dF 0 b)), .sc (.int .i64 (dF 1 b))], .sc (.int .i64 (dF 2 b)), .sc (.int .i64 (dF 3 b)), .ar 37 (pu .u8 (dH b)), .sc (.int .i64 (dF 4 b)), .ro 99 (dO b).isEmpty (dO b).isEmpty (dO b), .st 45 [.sc (.int .i64 (dF 5 b)), .sc (.int .i64 (dF 6 b))]], .sc (.int .i64 (dE b))]
def dQ (b : List PV) : PV := .tup [.st 73 [.st 45 [.sc (.int .i64 (dF 0 b)), .sc (.int .i64 (dF 1 b))], .sc (.int .i64 (dF 2 b)), .sc (.int .i64 (dF 3 b)), .ar 37 (pu .u8 (dH b)), .sc (.int .i64 (dF 4 b)), .ro 99 (dO b).isEmpty (dOF b) (dO b), .st 45 [.sc (.int .i64 (dF 5 b)), .sc (.int .i64 (dF 6 b))]], .sc (.int .i64 (dE b))]
theorem Jfi {b : List PV} {e : Int} (h : dE0 b = e) (h0 : (e == 0) = false) : dP b = Ja4 e := by
 simp only [dP, Ja4, JdH, JdI, JdJ, Ja3, h, h0, cond_false, List.isEmpty_nil]
theorem Jfj {b : List PV} {e : Int} (h : dE0 b = e) (h0 : (e == 0) = false) : dQ b = Ja4 e := by
 simp only [dQ, Ja4, JdH, JdI, JdJ, Ja3, JiK, h, h0, cond_false, List.isEmpty_nil, Bool.not_false]
theorem JCc {b : List PV} (h : dE0 b = 0) : dP b = .tup [.st 73 [.st 45 [.sc (.int .i64 (Jw 8 ⟨b, 0⟩)), .sc (.int .i64 (Jw 8 (Jc 8 ⟨b, 0⟩)))], .sc (.int .i64 (Jw 8 (Jc 8 (Jc 8 ⟨b, 0⟩)))), .sc (.int .i64 (Jw 8 (Jc 8 (Jc 8 (Jc 8 ⟨b, 0⟩))))), .ar 37 (pu .u8 (hashV (d4 b))), .sc (.int .i64 (Jw 1 (d5 b))), .ro 99 (opL (dt b)).isEmpty (opL (dt b)).isEmpty (opL (dt b)), .st 45 [.sc (.int .i64 (Jw 8 (d7 b))), .sc (.int .i64 (Jw 8 (Jc 8 (d7 b))))]], .sc (.int .i64 0)] := by
 simp only [dP, JdH, JdI, JdJ, Ja3, h, beq_self_eq_true, cond_true, dN, dv]
theorem JCd {b : List PV} (h : dE0 b = 0) : dQ b = .tup [.st 73 [.st 45 [.sc (.int .i64 (Jw 8 ⟨b, 0⟩)), .sc (.int .i64 (Jw 8 (Jc 8 ⟨b, 0⟩)))], .sc (.int .i64 (Jw 8 (Jc 8 (Jc 8 ⟨b, 0⟩)))), .sc (.int .i64 (Jw 8 (Jc 8 (Jc 8 (Jc 8 ⟨b, 0⟩))))), .ar 37 (pu .u8 (hashV (d4 b))), .sc (.int .i64 (Jw 1 (d5 b))), .ro 99 (opL (dt b)).isEmpty false (opL (dt b)), .st 45 [.sc (.int .i64 (Jw 8 (d7 b))), .sc (.int .i64 (Jw 8 (Jc 8 (d7 b))))]], .sc (.int .i64 0)] := by
 simp only [dQ, JdH, JdI, JdJ, Ja3, JiK, h, beq_self_eq_true, cond_true, Bool.not_true, dN, dv]
theorem Jfk {b : List PV} (h : byB b = true) : cOk (opL b) = true := by
 rw [Jay]
 cases XR b == 0 with
 | true => exact Jfd (JiA h) _
 | false => exact W2.2 ⟨rfl, Nat.zero_le _⟩
theorem JnW (f : Nat) (k0 : Int -> Int -> Int -> Int -> List PV -> Int -> List PV -> Int -> Int -> Bool -> Bool -> List PV -> Int -> Int -> Int -> Int -> Int -> List PV -> Int -> List PV -> Int -> Int -> Option Res) (z fl : Bool) (hz : (!z || fl) = true) (x1 x2 x3 x4 : Int) (x5 : List PV) (x6 : Int) (x7 : List PV) (x8 x9 y14 y15 y16 y17 y19 : Int) (y20 : List PV) (y21 y22 : Int) : ∀ (d i n : Nat) (s : RS) (L : List Int), i + d = 32 -> d < n -> byB s.b = true -> L.length = 32 ->
  YF f k0 n (i : Int) x1 x2 x3 x4 x5 x6 x7 x8 x9 z fl s.b s.e y14 y15 y16 y17 (pu .u8 L) y19 y20 y21 y22 = k0 x1 x2 x3 x4 x5 x6 x7 x8 x9 z fl (Jal d s).b (Jal d s).e y14 y15 y16 y17 (pu .u8 (L.take i ++ Vl d s)) y19 y20 y21 y22
 | 0, i, n + 1, s, L, h, hn, hb, hL => by
   obtain rfl : i = 32 := by omega
   simp only [YF, ZM, Jal, Vl, List.append_nil]
   rw [List.take_of_length_le (by omega)]
   exact Jv (by decide)
 | d + 1, i, n + 1, s, L, h, hn, hb, hL => by
   have g1 : ((i : Int)).toNat = i := by omega
   have w1 : IntKind.i64.wrap ((i : Int) + 1) = ((i + 1 : Nat) : Int) := by rw [wrap_i64 (by omega) (by omega)]; omega
   have hm : RS.mk s.b s.e = s := rfl
   simp only [YF, ZM, g1, w1, hm, Ws]
   refine (Jb (by simp; omega)).trans ((Jb (by rw [hb, hz]; rfl)).trans ((Jb (by simp [zi]; omega)).trans ?_))
   have := JnW f k0 z fl hz x1 x2 x3 x4 x5 x6 x7 x8 x9 y14 y15 y16 y17 y19 y20 y21 y22 d (i + 1) n (J1 1 s) (L.set i (IntKind.u8.wrap (Jw 1 s))) (by omega) (by omega) (X1 hb 1) (by simpa using hL)
   rw [We]
   refine Eq.trans this ?_
   have hset : (L.set i (IntKind.u8.wrap (Jw 1 s))).take (i + 1) = L.take i ++ [IntKind.u8.wrap (Jw 1 s)] := by
    rw [List.take_add_one, List.take_set_of_le (Nat.le_refl i), List.getElem?_set_self (by omega)]; rfl
   rw [hset, WS]
   simp only [Jal, Vl, List.append_assoc, List.cons_append, List.nil_append]
theorem JqV (z f : Bool) (b : List PV) (hz : slB z b = true) (hb : byB b = true) (k : Res -> Option Res) :
  Jws 40 z f b k = k ⟨dP b, [], []⟩ := by
 have hE : dE0 b = dE0 b := rfl
 conv at hE => rhs; unfold dE0
 have hzz : (!z || z) = true := by cases z <;> rfl
 have c1 := Qa (s := ⟨b, 0⟩) hb 8
 have c2 := Qa c1 8
 have c3 := Qa c2 8
 have c4 : byB (d4 b).b = true := Qa c3 8
 have c5 : byB (d5 b).b = true := by unfold d5; rw [hashS_eq]; exact JeF 32 c4
 have c6 := Qa c5 1
 have c7 : byB (d7 b).b = true := JjM c6
 have c8 := Qa c7 8
 unfold Jws
 refine (Jb hz).trans ((Jb (by rw [hb, hzz]; rfl)).trans ((Jb (by rw [c1, hzz]; rfl)).trans ((Jb (by rw [c2, hzz]; rfl)).trans ((Jb (by rw [c3, hzz]; rfl)).trans ?_))))
 refine (JnW 40 _ z z hzz _ _ _ _ _ _ _ _ _ _ _ _ _ _ _ _ _ 32 0 40 (d4 b) (List.replicate 32 0) (by omega) (by omega) c4 (by simp)).trans ?_
 have hr : Jal 32 (d4 b) = d5 b := by unfold d5; rw [hashS_eq]
 have hv : Vl 32 (d4 b) = hashV (d4 b) := by rw [hashV_eq]
 have hm : RS.mk (d5 b).b (d5 b).e = d5 b := rfl
 have h7 : J9 (Jc 1 (d5 b)) = d7 b := rfl
 have h9 : Jc 8 (Jc 8 (d7 b)) = d9 b := rfl
 have hsz := Jdt c6
 have htk : List.take (JS (Jc 1 (d5 b))).size (dt b) = dt b := List.take_of_length_le (by unfold dt; rw [XB]; exact Nat.le_refl _)
 have hto : Jj (JS (Jc 1 (d5 b))) = dt b := rfl
 have hbt : byB (dt b) = true := JiJ _
 have hlt : (dt b).length <= 65535 := by unfold dt; rw [XB]; exact hsz
 have hsl : slB (Ent.vec false 5 false (dt b)).nil (dt b) = true := Wd.2 ⟨fun h => by simp [Ent.nil] at h, by omega⟩
 have hz9 : decide (zi (d9 b).b.length > 0) = decide ((d9 b).b.length > 0) := by apply decide_eq_decide.2; simp only [zi]; omega
 have hdv : DV.mk (Jw 8 ⟨b, 0⟩) (Jw 8 (Jc 8 ⟨b, 0⟩)) (Jw 8 (Jc 8 (Jc 8 ⟨b, 0⟩))) (Jw 8 (Jc 8 (Jc 8 (Jc 8 ⟨b, 0⟩)))) (pu .u8 (hashV (d4 b))) (Jw 1 (d5 b)) (opL (dt b)) (Jw 8 (d7 b)) (Jw 8 (Jc 8 (d7 b))) = dv b := rfl
 simp only [hr, hv, hm, h7, h9, List.take_zero, List.nil_append, List.drop_zero, htk, hto, hz9, hdv, hsl, hbt, hzz, c5, c6, c7, c8, Jfk hbt, Bool.true_and, Bool.and_true, cond_true]
 cases he : ((d9 b).e == 0) with
 | false =>
  rw [he, cond_false] at hE
  rw [Jfi hE he]
  simp only [cond_false]
  exact Jb (by rw [bne, he]; rfl)
 | true =>
  rw [he, cond_true] at hE
  cases h9 : decide ((d9 b).b.length > 0) with
  | true =>
   rw [h9, cond_true] at hE
   rw [Jfi hE (by decide)]
   rfl
  | false =>
   rw [h9, cond_false] at hE
   simp only [cond_true, cond_false]
   refine (Jb (by simp [Jl]; omega)).trans ?_
   cases ho : (opE (dt b) == 0) with
   | false =>
    rw [ho, cond_false] at hE
    try simp only [cond_false]
    rw [Jfi hE ho]
    exact Jb (by rw [bne, ho]; rfl)
   | true =>
    rw [ho, cond_true] at hE
    try simp only [cond_true]
    cases hd : (dCk (dv b) == 0) with
    | false =>
     rw [Jfi hE hd]
     exact Jb (by rw [bne, hd]; rfl)
    | true =>
     have hd' : dCk (dv b) = 0 := by simpa using hd
     rw [hd'] at hE
     rw [JCc hE]
     exact Jv (by rw [bne, hd]; rfl)
def Jfl : List PV -> List Ent -> (Res -> Option Res) -> Option Res
 | [.ro 5 z f b], [], k => bif slB z b && byB b then k ⟨dP b, [], []⟩ else none
 | _, _, _ => none
def JtN : Sig := { own := [], run := Jfl }
theorem Jwu : Jf tau Try.prog 103 JtN := Jf.mk' fun xs es k res hl hr => by
 change Jfl xs es k = some res at hr
 unfold Jfl at hr
 split at hr
 · rename_i z f b
   obtain ⟨hc, hr⟩ := JG hr
   rw [Bool.and_eq_true] at hc
   have hg := (JqV z f b hc.1 hc.2 k).trans hr
   exact Qj Jq JkA Jr JtJ JtK (JkB (VS 40)) [.ro, .ro] 0 0 (JB1 40) hl rfl ((JFH 40 z f b k).trans hg)
 · cases hr
theorem Jwv (z f : Bool) (b : List PV) (hb : byB b = true) (hlen : b.length <= 1000000000) (k : Res -> Option Res) :
  g52 0 z f b k = k ⟨dQ b, [], []⟩ := by
 have hE : dE0 b = dE0 b := rfl
 conv at hE => rhs; unfold dE0
 have c0 : okT (RT.mk b 0 0) = true := by simp [okT, hb]; omega
 have hv0 : (RT.mk b 0 0).view = RS.mk b 0 := rfl
 have c1 := Qv c0 8
 have c2 := Qv c1 8
 have c3 := Qv c2 8
 have c4 := Qv c3 8
 have c5 := JmF c4
 have c6 := Qv c5 1
 have c7 := Jf8 c6
 have c8 := Qv c7 8
 have c9 := Qv c8 8
 have b1 := Qa (s := ⟨b, 0⟩) hb 8
 have b4 : byB (d4 b).b = true := Qa (Qa (Qa b1 8) 8) 8
 have b5 : byB (d5 b).b = true := by unfold d5; rw [hashS_eq]; exact JeF 32 b4
 have b6 := Qa b5 1
 have v4 : (Ja 8 (Ja 8 (Ja 8 (Ja 8 (RT.mk b 0 0))))).view = d4 b := by simp only [Qe, hv0, d4]
 have v5 : (hashT (Ja 8 (Ja 8 (Ja 8 (Ja 8 (RT.mk b 0 0)))))).view = d5 b := by rw [hashT_view, v4, d5]
 have v7 : (J3 (Ja 1 (hashT (Ja 8 (Ja 8 (Ja 8 (Ja 8 (RT.mk b 0 0)))))))).view = d7 b := by rw [Jdn, Qe, v5, d7]
 have v9 : (Ja 8 (Ja 8 (J3 (Ja 1 (hashT (Ja 8 (Ja 8 (Ja 8 (Ja 8 (RT.mk b 0 0)))))))))).view = d9 b := by rw [Qe, Qe, v7, d9]
 have n0 : Jy 8 (RT.mk b 0 0) = Jw 8 ⟨b, 0⟩ := by rw [Wf, hv0]
 have n1 : Jy 8 (Ja 8 (RT.mk b 0 0)) = Jw 8 (Jc 8 ⟨b, 0⟩) := by simp only [Wf, Qe, hv0]
 have n2 : Jy 8 (Ja 8 (Ja 8 (RT.mk b 0 0))) = Jw 8 (Jc 8 (Jc 8 ⟨b, 0⟩)) := by simp only [Wf, Qe, hv0]
 have n3 : Jy 8 (Ja 8 (Ja 8 (Ja 8 (RT.mk b 0 0)))) = Jw 8 (Jc 8 (Jc 8 (Jc 8 ⟨b, 0⟩))) := by simp only [Wf, Qe, hv0]
 have n4 : hashVT (Ja 8 (Ja 8 (Ja 8 (Ja 8 (RT.mk b 0 0))))) = hashV (d4 b) := by rw [hashVT_val, v4]
 have n5 : Jy 1 (hashT (Ja 8 (Ja 8 (Ja 8 (Ja 8 (RT.mk b 0 0)))))) = Jw 1 (d5 b) := by rw [Wf, v5]
 have n6 : JM (Ja 1 (hashT (Ja 8 (Ja 8 (Ja 8 (Ja 8 (RT.mk b 0 0))))))) = JS (Jc 1 (d5 b)) := by rw [Jdo, Qe, v5]
 have n7 : Jy 8 (J3 (Ja 1 (hashT (Ja 8 (Ja 8 (Ja 8 (Ja 8 (RT.mk b 0 0)))))))) = Jw 8 (d7 b) := by rw [Wf, v7]
 have n8 : Jy 8 (Ja 8 (J3 (Ja 1 (hashT (Ja 8 (Ja 8 (Ja 8 (Ja 8 (RT.mk b 0 0))))))))) = Jw 8 (Jc 8 (d7 b)) := by rw [Wf, Qe, v7]
 unfold g52
 refine (Jb c0).trans ((Jb c1).trans ((Jb c2).trans ((Jb c3).trans ((Jb c4).trans ((Jb c5).trans ((Jb c6).trans ((Jb c7).trans ((Jb c8).trans ?_))))))))
 simp only [n0, n1, n2, n3, n4, n5, n6, n7, n8]
 generalize Ja 8 (Ja 8 (J3 (Ja 1 (hashT (Ja 8 (Ja 8 (Ja 8 (Ja 8 (RT.mk b 0 0))))))))) = t at *
 have hte : t.e = (d9 b).e := by rw [← v9]; rfl
 have htP : decide (t.P < zi t.B.length) = decide ((d9 b).b.length > 0) := by
  rw [← v9]
  show decide _ = decide ((List.drop _ _).length > 0)
  rw [List.length_drop]
  simp only [okT, Bool.and_eq_true, decide_eq_true_eq] at c9
  apply decide_eq_decide.2
  simp only [zi]; omega
 have hsz := Jdt b6
 have htk : List.take (JS (Jc 1 (d5 b))).size (dt b) = dt b := List.take_of_length_le (by unfold dt; rw [XB]; exact Nat.le_refl _)
 have hto : Jj (JS (Jc 1 (d5 b))) = dt b := rfl
 have hbt : byB (dt b) = true := JiJ _
 have hlt : (dt b).length <= 65535 := by unfold dt; rw [XB]; exact hsz
 have hble : (dt b).length.ble 1000000000 = true := by rw [Nat.ble_eq]; omega
 have hdv : DV.mk (Jw 8 ⟨b, 0⟩) (Jw 8 (Jc 8 ⟨b, 0⟩)) (Jw 8 (Jc 8 (Jc 8 ⟨b, 0⟩))) (Jw 8 (Jc 8 (Jc 8 (Jc 8 ⟨b, 0⟩)))) (pu .u8 (hashV (d4 b))) (Jw 1 (d5 b)) (opL (dt b)) (Jw 8 (d7 b)) (Jw 8 (Jc 8 (d7 b))) = dv b := rfl
 simp only [hte, htP, List.drop_zero, htk, hto, hdv, hbt, hble, Jfk hbt, Bool.true_and, Bool.and_true, cond_true]
 cases he : ((d9 b).e == 0) with
 | false =>
  rw [he, cond_false] at hE
  rw [Jfj hE he]
  simp only [cond_false]
  exact Jb (by rw [bne, he]; rfl)
 | true =>
  rw [he, cond_true] at hE
  cases h9 : decide ((d9 b).b.length > 0) with
  | true =>
   rw [h9, cond_true] at hE
   rw [Jfj hE (by decide)]
   rfl
  | false =>
   rw [h9, cond_false] at hE
   simp only [cond_true, cond_false]
   refine (Jb (by simp [Jl]; omega)).trans ?_
   cases ho : (opE (dt b) == 0) with
   | false =>
    rw [ho, cond_false] at hE
    try simp only [cond_false]
    rw [Jfj hE ho]
    exact Jb (by rw [bne, ho]; rfl)
   | true =>
    have hoF : opF (dt b) = false := by rw [Jiz, ← Jax, ho]; rfl
    rw [ho, cond_true] at hE
    try simp only [cond_true]
    cases hd : (dCk (dv b) == 0) with
    | false =>
     rw [Jfj hE hd]
     exact Jb (by rw [bne, hd]; rfl)
    | true =>
     have hd' : dCk (dv b) = 0 := by simpa using hd
     rw [hd'] at hE
     rw [JCd hE, hoF]
     exact Jv (by rw [bne, hd]; rfl)
def JiL : List PV -> List Ent -> (Res -> Option Res) -> Option Res
 | [.ro 5 z f b], [], k => bif byB b && Nat.ble b.length 1000000000 then k ⟨dQ b, [], []⟩ else none
 | _, _, _ => none
def JCe : Sig := { own := [], run := JiL }
theorem JCf : Jf tau Try.prog 52 JCe := JFM.of fun xs es k res hr => by
 change JiL xs es k = some res at hr
 unfold JiL at hr
 split at hr
 · rename_i z f b
   obtain ⟨hc, hr⟩ := JG hr
   rw [Bool.and_eq_true, Nat.ble_eq] at hc
   exact (Jwv z f b hc.1 hc.2 k).trans hr
 · cases hr
def F49 : Fns := JC 103 JtN (JC 102 Jkp (JC 80 JpS (F0)))
theorem Jww : Ju tau Try.prog F49 := (((JB).add JmT Jvh).add Jix JnG).add Jwu JB2
def JqW : An := (.seq .leaf (.seq .leaf (.seq (.seq .leaf (.cond (.seq .leaf .leaf) .leaf)) (.seq (.seq .leaf (.seq .leaf (.cond (.seq .leaf .leaf) .leaf))) (.seq .leaf .leaf)))))
def g49 (f : Nat) (k0_z k0_f : Bool) (k0 : List PV) (k1_z k1_f : Bool) (k1 : List PV) (k2_z k2_f : Bool) (k2 : List PV) (y0 y1 : Bool) (y2 y3 : List PV) (k : Res -> Option Res) : Option Res := bif slB y0 y2 && byB y2 then bif dE y2 != 0 then k (Res.mk (.tup [.st 73 [.st 45 [.sc (.int .i64 0), .sc (.int .i64 0)], .sc (.int .i64 0), .sc (.int .i64 0), .ar 37 [.sc (.int .u8 0), .sc (.int .u8 0), .sc (.int .u8 0), .sc (.int .u8 0), .sc (.int .u8 0), .sc (.int .u8 0), .sc (.int .u8 0), .sc (.int .u8 0), .sc (.int .u8 0), .sc (.int .u8 0), .sc (.int .u8 0), .sc (.int .u8 0), .sc (.int .u8 0), .sc (.int .u8 0), .sc (.int .u8 0), .sc (.int .u8 0), .sc (.int .u8 0), .sc (.int .u8 0), .sc (.int .u8 0), .sc (.int .u8 0), .sc (.int .u8 0), .sc (.int .u8 0), .sc (.int .u8 0), .sc (.int .u8 0), .sc (.int .u8 0), .sc (.int .u8 0), .sc (.int .u8 0), .sc (.int .u8 0), .sc (.int .u8 0), .sc (.int .u8 0), .sc (.int .u8 0), .sc (.int .u8 0)], .sc (.int .i64 0), .ro 99 true true [], .st 45 [.sc (.int .i64 0), .sc (.int .i64 0)]], .sc (.int .i64 (dE y2))]) [] []) else bif !kIn (dF 0 y2) then k (Res.mk (.tup [.st 73 [.st 45 [.sc (.int .i64 0), .sc (.int .i64 0)], .sc (.int .i64 0), .sc (.int .i64 0), .ar 37 [.sc (.int .u8 0), .sc (.int .u8 0), .sc (.int .u8 0), .sc (.int .u8 0), .sc (.int .u8 0), .sc (.int .u8 0), .sc (.int .u8 0), .sc (.int .u8 0), .sc (.int .u8 0), .sc (.int .u8 0), .sc (.int .u8 0), .sc (.int .u8 0), .sc (.int .u8 0), .sc (.int .u8 0), .sc (.int .u8 0), .sc (.int .u8 0), .sc (.int .u8 0), .sc (.int .u8 0), .sc (.int .u8 0), .sc (.int .u8 0), .sc (.int .u8 0), .sc (.int .u8 0), .sc (.int .u8 0), .sc (.int .u8 0), .sc (.int .u8 0), .sc (.int .u8 0), .sc (.int .u8 0), .sc (.int .u8 0), .sc (.int .u8 0), .sc (.int .u8 0), .sc (.int .u8 0), .sc (.int .u8 0)], .sc (.int .i64 0), .ro 99 true true [], .st 45 [.sc (.int .i64 0), .sc (.int .i64 0)]], .sc (.int .i64 14)]) [] []) else bif Jh IntKind.u8 (QS (K3.mk [.ro 5 k0_z k0_f k0, .ro 5 k1_z k1_f k1, .ro 5 k2_z k2_f k2] (dF 0 y2))) && decide ((QS (K3.mk [.ro 5 k0_z k0_f k0, .ro 5 k1_z k1_f k1, .ro 5 k2_z k2_f k2] (dF 0 y2))).length <= 1000000000) && (Jh IntKind.u8 (Jo [.ro 5 y0 y1 y2]) && decide ((Jo [.ro 5 y0 y1 y2]).length <= 1000000000)) && true then bif decide ((pu IntKind.u8 (Q9 (Ji (QS (K3.mk [.ro 5 k0_z k0_f k0, .ro 5 k1_z k1_f k1, .ro 5 k2_z k2_f k2] (dF 0 y2)))) (Ji (Jo [.ro 5 y0 y1 y2])))).length = 32) && decide (y3.length = 32) && Jh IntKind.u8 (pu IntKind.u8 (Q9 (Ji (QS (K3.mk [.ro 5 k0_z k0_f k0, .ro 5 k1_z k1_f k1, .ro 5 k2_z k2_f k2] (dF 0 y2)))) (Ji (Jo [.ro 5 y0 y1 y2])))) && Jh IntKind.u8 y3 && true then bif !Ql (pu IntKind.u8 (Q9 (Ji (QS (K3.mk [.ro 5 k0_z k0_f k0, .ro 5 k1_z k1_f k1, .ro 5 k2_z k2_f k2] (dF 0 y2)))) (Ji (Jo [.ro 5 y0 y1 y2])))) y3 then k (Res.mk (.tup [.st 73 [.st 45 [.sc (.int .i64 0), .sc (.int .i64 0)], .sc (.int .i64 0), .sc (.int .i64 0), .ar 37 [.sc (.int .u8 0), .sc (.int .u8 0), .sc (.int .u8 0), .sc (.int .u8 0), .sc (.int .u8 0), .sc (.int .u8 0), .sc (.int .u8 0), .sc (.int .u8 0), .sc (.int .u8 0), .sc (.int .u8 0), .sc (.int .u8 0), .sc (.int .u8 0), .sc (.int .u8 0), .sc (.int .u8 0), .sc (.int .u8 0), .sc (.int .u8 0), .sc (.int .u8 0), .sc (.int .u8 0), .sc (.int .u8 0), .sc (.int .u8 0), .sc (.int .u8 0), .sc (.int .u8 0), .sc (.int .u8 0), .sc (.int .u8 0), .sc (.int .u8 0), .sc (.int .u8 0), .sc (.int .u8 0), .sc (.int .u8 0), .sc (.int .u8 0), .sc (.int .u8 0), .sc (.int .u8 0), .sc (.int .u8 0)], .sc (.int .i64 0), .ro 99 true true [], .st 45 [.sc (.int .i64 0), .sc (.int .i64 0)]], .sc (.int .i64 14)]) [] []) else k (Res.mk (.tup [.st 73 [.st 45 [.sc (.int .i64 (dF 0 y2)), .sc (.int .i64 (dF 1 y2))], .sc (.int .i64 (dF 2 y2)), .sc (.int .i64 (dF 3 y2)), .ar 37 (pu IntKind.u8 (dH y2)), .sc (.int .i64 (dF 4 y2)), .ro 99 (dO y2).isEmpty (dO y2).isEmpty (dO y2), .st 45 [.sc (.int .i64 (dF 5 y2)), .sc (.int .i64 (dF 6 y2))]], .sc (.int .i64 0)]) [] []) else none else none else none
theorem e49 (f : Nat) (k0_z k0_f : Bool) (k0 : List PV) (k1_z k1_f : Bool) (k1 : List PV) (k2_z k2_f : Bool) (k2 : List PV) (y0 y1 : Bool) (y2 y3 : List PV) (k : Res -> Option Res) : JN tau F49 Try.f49 (Try.f49.body.get!) JqW [.ro, .ro] 0 [.st 31 [.ro 5 k0_z k0_f k0, .ro 5 k1_z k1_f k1, .ro 5 k2_z k2_f k2], .st 77 [.ro 5 y0 y1 y2, .ar 37 y3]] [] k = g49 f k0_z k0_f k0 k1_z k1_f k1 k2_z k2_f k2 y0 y1 y2 y3 k := by kernel_rfl
theorem JFN (f : Nat) : Je (Try.f49.body.get!) JqW = [] := by kernel_rfl
theorem JFO (f : Nat) : ∀ q ∈ Je (Try.f49.body.get!) JqW, q.Ok tau Try.prog 0 := by
 rw [JFN f]; intro q hq; cases hq
theorem JCg : Try.prog.funcs[49]? = some Try.f49 := by kernel_rfl
theorem JCh : Try.f49.body = some (Try.f49.body.get!) := by kernel_rfl
theorem JCi : Enters Try.prog 49 := enters_of JCg (by kernel_rfl) JCh
def JnX : List PV -> List Ent -> (Res -> Option Res) -> Option Res
 | [.st 31 [.ro 5 k0_z k0_f k0, .ro 5 k1_z k1_f k1, .ro 5 k2_z k2_f k2], .st 77 [.ro 5 y0 y1 y2, .ar 37 y3]], [], k => g49 0 k0_z k0_f k0 k1_z k1_f k1 k2_z k2_f k2 y0 y1 y2 y3 k
 | _, _, _ => none
def s49 : Sig := { own := [], run := JnX }
theorem JFP : Jf tau Try.prog 49 s49 := JP Jq Jww Jr JCg JCh JqW [.ro, .ro] 0 [] JnX (JFO 0) fun xs es k res hr => by
 unfold JnX at hr
 split at hr
 · exact ⟨rfl, 0, (e49 0 _ _ _ _ _ _ _ _ _ _ _ _ _  _).trans hr⟩
 · cases hr


def F60 : Fns := JC 102 Jkp (JC 80 JpS (JC 58 JA3 (F0)))
theorem Jwx : Ju tau Try.prog F60 := (((JB).add JA4 JFd).add JmT Jvh).add Jix JnG
def JqX : An := (.seq .leaf (.seq .leaf (.seq .leaf .leaf)))
def g60 (f : Nat) (k0_z k0_f : Bool) (k0 : List PV) (k1_z k1_f : Bool) (k1 : List PV) (k2_z k2_f : Bool) (k2 : List PV) (host : Int) (y0 y1 : Bool) (y2 y3 : List PV) (e_At : Int) (y4 y5 : Bool) (e_Op y6 y7 : List PV) (k : Res -> Option Res) : Option Res := bif kIn host then bif eOk (EV.mk y2 y3 e_At e_Op) then bif Jh IntKind.u8 (QS (K3.mk [.ro 5 k0_z k0_f k0, .ro 5 k1_z k1_f k1, .ro 5 k2_z k2_f k2] host)) && decide ((QS (K3.mk [.ro 5 k0_z k0_f k0, .ro 5 k1_z k1_f k1, .ro 5 k2_z k2_f k2] host)).length <= 1000000000) && (Jh IntKind.u8 (Jo [.ro 5 false false (pu IntKind.u8 (WL (EV.mk y2 y3 e_At e_Op))), .ro 5 false false (List.take 32 y6)]) && decide ((Jo [.ro 5 false false (pu IntKind.u8 (WL (EV.mk y2 y3 e_At e_Op))), .ro 5 false false (List.take 32 y6)]).length <= 1000000000)) && true then bif decide ((pu IntKind.u8 (Q9 (Ji (QS (K3.mk [.ro 5 k0_z k0_f k0, .ro 5 k1_z k1_f k1, .ro 5 k2_z k2_f k2] host))) (Ji (Jo [.ro 5 false false (pu IntKind.u8 (WL (EV.mk y2 y3 e_At e_Op))), .ro 5 false false (List.take 32 y6)])))).length = 32) && decide (y7.length = 32) && Jh IntKind.u8 (pu IntKind.u8 (Q9 (Ji (QS (K3.mk [.ro 5 k0_z k0_f k0, .ro 5 k1_z k1_f k1, .ro 5 k2_z k2_f k2] host))) (Ji (Jo [.ro 5 false false (pu IntKind.u8 (WL (EV.mk y2 y3 e_At e_Op))), .ro 5 false false (List.take 32 y6)])))) && Jh IntKind.u8 y7 && true then k (Res.mk (.sc (.bool (Ql (pu IntKind.u8 (Q9 (Ji (QS (K3.mk [.ro 5 k0_z k0_f k0, .ro 5 k1_z k1_f k1, .ro 5 k2_z k2_f k2] host))) (Ji (Jo [.ro 5 false false (pu IntKind.u8 (WL (EV.mk y2 y3 e_At e_Op))), .ro 5 false false (List.take 32 y6)])))) y7))) [] []) else none else none else none else k (Res.mk (.sc (.bool false)) [] [])
theorem e60 (f : Nat) (k0_z k0_f : Bool) (k0 : List PV) (k1_z k1_f : Bool) (k1 : List PV) (k2_z k2_f : Bool) (k2 : List PV) (host : Int) (y0 y1 : Bool) (y2 y3 : List PV) (e_At : Int) (y4 y5 : Bool) (e_Op y6 y7 : List PV) (k : Res -> Option Res) : JN tau F60 Try.f60 (Try.f60.body.get!) JqX [.ro] 0 [.st 31 [.ro 5 k0_z k0_f k0, .ro 5 k1_z k1_f k1, .ro 5 k2_z k2_f k2], .sc (.int .i64 host), .st 93 [.st 77 [.ro 5 y0 y1 y2, .ar 37 y3], .sc (.int .i64 e_At), .ro 99 y4 y5 e_Op, .ar 37 y6, .ar 37 y7]] [] k = g60 f k0_z k0_f k0 k1_z k1_f k1 k2_z k2_f k2 host y0 y1 y2 y3 e_At y4 y5 e_Op y6 y7 k := by kernel_rfl
theorem JFQ (f : Nat) : Je (Try.f60.body.get!) JqX = [] := by kernel_rfl
theorem JFR (f : Nat) : ∀ q ∈ Je (Try.f60.body.get!) JqX, q.Ok tau Try.prog 0 := by
 rw [JFQ f]; intro q hq; cases hq
theorem JCj : Try.prog.funcs[60]? = some Try.f60 := by kernel_rfl
theorem JCk : Try.f60.body = some (Try.f60.body.get!) := by kernel_rfl
theorem JFS : Enters Try.prog 60 := enters_of JCj (by kernel_rfl) JCk
def JnY : List PV -> List Ent -> (Res -> Option Res) -> Option Res
 | [.st 31 [.ro 5 k0_z k0_f k0, .ro 5 k1_z k1_f k1, .ro 5 k2_z k2_f k2], .sc (.int .i64 host), .st 93 [.st 77 [.ro 5 y0 y1 y2, .ar 37 y3], .sc (.int .i64 e_At), .ro 99 y4 y5 e_Op, .ar 37 y6, .ar 37 y7]], [], k => g60 0 k0_z k0_f k0 k1_z k1_f k1 k2_z k2_f k2 host y0 y1 y2 y3 e_At y4 y5 e_Op y6 y7 k
 | _, _, _ => none
def s60 : Sig := { own := [], run := JnY }
theorem JFT : Jf tau Try.prog 60 s60 := JP Jq Jwx Jr JCj JCk JqX [.ro] 0 [] JnY (JFR 0) fun xs es k res hr => by
 unfold JnY at hr
 split at hr
 · exact ⟨rfl, 0, (e60 0 _ _ _ _ _ _ _ _ _ _ _ _ _ _ _ _ _ _ _ _  _).trans hr⟩
 · cases hr
def F72 : Fns := F0
theorem Jwy : Ju tau Try.prog F72 := JB
def JqY : An := (.seq .leaf (.seq .leaf .leaf))
def g72 (f : Nat) (k : Res -> Option Res) : Option Res := k (Res.mk (.ar 118 [.sc (.int .u32 1116352408), .sc (.int .u32 1899447441), .sc (.int .u32 3049323471), .sc (.int .u32 3921009573), .sc (.int .u32 961987163), .sc (.int .u32 1508970993), .sc (.int .u32 2453635748), .sc (.int .u32 2870763221), .sc (.int .u32 3624381080), .sc (.int .u32 310598401), .sc (.int .u32 607225278), .sc (.int .u32 1426881987), .sc (.int .u32 1925078388), .sc (.int .u32 2162078206), .sc (.int .u32 2614888103), .sc (.int .u32 3248222580), .sc (.int .u32 3835390401), .sc (.int .u32 4022224774), .sc (.int .u32 264347078), .sc (.int .u32 604807628), .sc (.int .u32 770255983), .sc (.int .u32 1249150122), .sc (.int .u32 1555081692), .sc (.int .u32 1996064986), .sc (.int .u32 2554220882), .sc (.int .u32 2821834349), .sc (.int .u32 2952996808), .sc (.int .u32 3210313671), .sc (.int .u32 3336571891), .sc (.int .u32 3584528711), .sc (.int .u32 113926993), .sc (.int .u32 338241895), .sc (.int .u32 666307205), .sc (.int .u32 773529912), .sc (.int .u32 1294757372), .sc (.int .u32 1396182291), .sc (.int .u32 1695183700), .sc (.int .u32 1986661051), .sc (.int .u32 2177026350), .sc (.int .u32 2456956037), .sc (.int .u32 2730485921), .sc (.int .u32 2820302411), .sc (.int .u32 3259730800), .sc (.int .u32 3345764771), .sc (.int .u32 3516065817), .sc (.int .u32 3600352804), .sc (.int .u32 4094571909), .sc (.int .u32 275423344), .sc (.int .u32 430227734), .sc (.int .u32 506948616), .sc (.int .u32 659060556), .sc (.int .u32 883997877), .sc (.int .u32 958139571), .sc (.int .u32 1322822218), .sc (.int .u32 1537002063), .sc (.int .u32 1747873779), .sc (.int .u32 1955562222), .sc (.int .u32 2024104815), .sc (.int .u32 2227730452), .sc (.int .u32 2361852424), .sc (.int .u32 2428436474), .sc (.int .u32 2756734187), .sc (.int .u32 3204031479), .sc (.int .u32 3329325298)]) [] [])
theorem e72 (f : Nat) (k : Res -> Option Res) : JN tau F72 Try.f72 (Try.f72.body.get!) JqY [.ro] 0 [] [] k = g72 f k := by kernel_rfl
theorem JFU (f : Nat) : Je (Try.f72.body.get!) JqY = [] := by kernel_rfl
theorem JFV (f : Nat) : ∀ q ∈ Je (Try.f72.body.get!) JqY, q.Ok tau Try.prog 0 := by
 rw [JFU f]; intro q hq; cases hq
theorem JCl : Try.prog.funcs[72]? = some Try.f72 := by kernel_rfl
theorem JCm : Try.f72.body = some (Try.f72.body.get!) := by kernel_rfl
theorem JFW : Enters Try.prog 72 := enters_of JCl (by kernel_rfl) JCm
def JnZ : List PV -> List Ent -> (Res -> Option Res) -> Option Res
 | [], [], k => g72 0  k
 | _, _, _ => none
def s72 : Sig := { own := [], run := JnZ }
theorem JFX : Jf tau Try.prog 72 s72 := JP Jq Jwy Jr JCl JCm JqY [.ro] 0 [] JnZ (JFV 0) fun xs es k res hr => by
 unfold JnZ at hr
 split at hr
 · exact ⟨rfl, 0, (e72 0  _).trans hr⟩
 · cases hr
def N28 : Nat := 278
def F28 : Fns := JC 72 s72 (JC 73 Jyt F0)
theorem YG : Ju tau Try.prog F28 := (JB.add Jyu JEb).add JFX JFW
def JdK : Code := Qu (Try.f28.body.get!) [1, 1, 1, 1, 1, 0, 0, 0]
def YH : Nm := [(0, .any), (2, .any), (3, .any), (4, .any), (5, .any)]
def ZN : Nm := [(0, .any), (2, .any), (3, .any), (4, .any), (5, .any)]
def JgL : An := (.seq (.seq .leaf (.cond .leaf .leaf)) (.block none .leaf))
def JdL : Code := Qu (Try.f28.body.get!) [1, 1, 1, 1, 1, 1, 1, 0, 1, 0, 0]
def YI : Nm := [(2, .any), (3, .any), (4, .any), (5, .any), (6, .any), (7, .any)]
def ZO : Nm := [(2, .any), (3, .any), (4, .any), (5, .any)]
def JgM : An := (.seq (.seq .leaf (.cond .leaf .leaf)) (.seq (.block none .leaf) .leaf))
def JdM : Code := Qu (Try.f28.body.get!) [1, 1, 1, 1, 1, 1, 1, 1, 1, 0, 1, 0, 0, 1, 0, 0, 0, 1, 0, 0]
def YJ : Nm := [(2, .any), (3, .any), (4, .any), (5, .any), (8, .any), (9, .any), (10, .any)]
def ZP : Nm := [(2, .any), (3, .any), (4, .any), (5, .any), (8, .any), (9, .any)]
def JgN : An := (.seq (.seq .leaf (.cond .leaf .leaf)) (.seq (.block none (.seq .leaf .leaf)) .leaf))
def JdN : Code := Qu (Try.f28.body.get!) [1, 1, 1, 1, 1, 1, 1, 1, 1, 0, 1, 0, 0, 1, 0, 0, 1, 0, 1, 0, 0]
def YK : Nm := [(2, .any), (3, .any), (4, .any), (5, .any), (8, .any), (9, .any), (12, .any)]
def ZQ : Nm := [(2, .any), (3, .any), (4, .any), (5, .any), (8, .any), (9, .any)]
def JgO : An := (.seq (.seq .leaf (.cond .leaf .leaf)) (.seq (.block none (.seq .leaf .leaf)) .leaf))
def JdO : Code := Qu (Try.f28.body.get!) [1, 1, 1, 1, 1, 1, 1, 1, 1, 0, 1, 0, 0, 1, 0, 0, 1, 1, 1, 0, 1, 0, 0]
def YL : Nm := [(2, .any), (3, .any), (4, .any), (5, .any), (8, .any), (9, .any), (15, .any), (16, .any)]
def ZR : Nm := [(2, .any), (3, .any), (4, .any), (5, .any), (8, .any), (9, .any), (15, .any)]
def JgP : An := (.seq (.seq .leaf (.cond .leaf .leaf)) (.seq (.block none (.seq .leaf (.seq .leaf (.seq .leaf .leaf)))) .leaf))
def JdP : Code := Qu (Try.f28.body.get!) [1, 1, 1, 1, 1, 1, 1, 1, 1, 0, 1, 0, 0, 1, 0, 0, 1, 1, 1, 1, 1, 0, 0]
def YM : Nm := [(2, .any), (3, .any), (4, .any), (5, .any), (8, .any), (9, .any), (15, .any), (20, .any)]
def ZS : Nm := [(2, .any), (3, .any), (4, .any), (5, .any), (8, .any), (9, .any)]
def JgQ : An := (.seq (.seq .leaf (.cond .leaf .leaf)) (.seq (.block none .leaf) .leaf))
def JdQ : Code := Qu (Try.f28.body.get!) [1, 1, 1, 1, 1, 1, 1, 1, 1, 0, 1, 0, 0]
def YN : Nm := [(2, .any), (3, .any), (4, .any), (5, .any), (8, .any), (9, .any)]
def ZT : Nm := [(2, .any), (4, .any)]
def JgR (r3 : QJ) (r4 : QJ) (r5 : QJ) (r6 : QJ) : An := (.seq (.seq .leaf (.cond .leaf .leaf)) (.seq (.block none (.seq (.seq .leaf (.block none (.sum YJ N28 r3))) (.seq (.seq .leaf (.block none (.sum YK N28 r4))) (.seq .leaf (.seq (.seq .leaf (.block none (.sum YL N28 r5))) (.seq .leaf (.block none (.sum YM N28 r6)))))))) .leaf))
def JdR : Code := Qu (Try.f28.body.get!) [1, 1, 1, 1, 1, 1, 1, 1, 1, 1, 1, 0, 1, 0, 0]
def YO : Nm := [(2, .any), (4, .any), (21, .any), (22, .any)]
def ZU : Nm := [(2, .any), (21, .any)]
def JgS : An := (.seq (.seq .leaf (.cond .leaf .leaf)) (.seq (.block none .leaf) .leaf))
def JqZ (r0 : QJ) (r1 : QJ) (r2 : QJ) (r7 : QJ) : An := (.seq .leaf (.seq .leaf (.seq .leaf (.seq .leaf (.seq .leaf (.seq (.block none (.sum YH N28 r0)) (.seq .leaf (.seq (.seq .leaf (.block none (.sum YI N28 r1))) (.seq .leaf (.seq (.seq .leaf (.block none (.sum YN N28 r2))) (.seq .leaf (.seq (.seq .leaf (.block none (.sum YO N28 r7))) (.seq .leaf .leaf)))))))))))))
def GN (f : Nat) (rc : Bool -> Bool -> List PV -> Nat -> List PV -> List PV -> List PV -> List PV -> Option Res) (k0 : Bool -> Bool -> List PV -> Nat -> List PV -> List PV -> List PV -> List PV -> Option Res) (v0 v1 : Bool) (v2 : List PV) (v3 : Nat) (v4 v5 v6 v7 : List PV) : Option Res := bif (zi v3).tmod 64 != 56 then bif Jl (v3 + 1) 1 && true then rc v0 v1 v2 (v3 + 1) v4 v5 v6 (List.take v3 v7 ++ [.sc (.int .u8 0)]) else none else k0 v0 v1 v2 v3 v4 v5 v6 v7
def VT (f : Nat) (k0 : Bool -> Bool -> List PV -> Nat -> List PV -> List PV -> List PV -> List PV -> Option Res) : Nat -> Bool -> Bool -> List PV -> Nat -> List PV -> List PV -> List PV -> List PV -> Option Res
 | 0, _, _, _, _, _, _, _, _ => none
 | n + 1, v0, v1, v2, v3, v4, v5, v6, v7 => GN f (VT f k0 n) k0 v0 v1 v2 v3 v4 v5 v6 v7
theorem Jq0 (f : Nat) (k : Kont) (n : Nat) (v0 v1 : Bool) (v2 : List PV) (v3 : Nat) (v4 v5 v6 v7 : List PV) : Jn tau 0 YH (fun s k => ev tau F28 0 0 JdK (JgL ) s k) (n + 1) (Jd YH N28 [.ro 5 v0 v1 v2, .ptr 4464 [], .ptr 4465 [], .ptr 4466 [], .ow 5 4467 [] 0 v3 none] [(4464, .box false 37 (PV.ar 37 v4)), (4465, .box false 118 (PV.ar 118 v5)), (4466, .box false 112 (PV.ar 112 v6)), (4467, .vec false 5 false v7)]) (Jt tau 0 ZN k) = GN f (fun v0 v1 v2 v3 v4 v5 v6 v7 => Jn tau 0 YH (fun s k => ev tau F28 0 0 JdK (JgL ) s k) n (Jd YH N28 [.ro 5 v0 v1 v2, .ptr 4464 [], .ptr 4465 [], .ptr 4466 [], .ow 5 4467 [] 0 v3 none] [(4464, .box false 37 (PV.ar 37 v4)), (4465, .box false 118 (PV.ar 118 v5)), (4466, .box false 112 (PV.ar 112 v6)), (4467, .vec false 5 false v7)]) (Jt tau 0 ZN k)) (fun x0 x1 x2 x3 x4 x5 x6 x7 => k (Ex.exit 0) (Jd ZN N28 [.ro 5 x0 x1 x2, .ptr 4464 [], .ptr 4465 [], .ptr 4466 [], .ow 5 4467 [] 0 x3 none] [(4464, .box false 37 (PV.ar 37 x4)), (4465, .box false 118 (PV.ar 118 x5)), (4466, .box false 112 (PV.ar 112 x6)), (4467, .vec false 5 false x7)])) v0 v1 v2 v3 v4 v5 v6 v7 := by kernel_rfl
theorem JkD (f : Nat) (k : Kont) : ∀ (n : Nat) (v0 v1 : Bool) (v2 : List PV) (v3 : Nat) (v4 v5 v6 v7 : List PV), Jn tau 0 YH (fun s k => ev tau F28 0 0 JdK (JgL ) s k) n (Jd YH N28 [.ro 5 v0 v1 v2, .ptr 4464 [], .ptr 4465 [], .ptr 4466 [], .ow 5 4467 [] 0 v3 none] [(4464, .box false 37 (PV.ar 37 v4)), (4465, .box false 118 (PV.ar 118 v5)), (4466, .box false 112 (PV.ar 112 v6)), (4467, .vec false 5 false v7)]) (Jt tau 0 ZN k) = VT f (fun x0 x1 x2 x3 x4 x5 x6 x7 => k (Ex.exit 0) (Jd ZN N28 [.ro 5 x0 x1 x2, .ptr 4464 [], .ptr 4465 [], .ptr 4466 [], .ow 5 4467 [] 0 x3 none] [(4464, .box false 37 (PV.ar 37 x4)), (4465, .box false 118 (PV.ar 118 x5)), (4466, .box false 112 (PV.ar 112 x6)), (4467, .vec false 5 false x7)])) n v0 v1 v2 v3 v4 v5 v6 v7 | 0, _, _, _, _, _, _, _, _ => rfl | n + 1, v0, v1, v2, v3, v4, v5, v6, v7 => (Jq0 f k n v0 v1 v2 v3 v4 v5 v6 v7).trans (congrArg (fun r => GN f r (fun x0 x1 x2 x3 x4 x5 x6 x7 => k (Ex.exit 0) (Jd ZN N28 [.ro 5 x0 x1 x2, .ptr 4464 [], .ptr 4465 [], .ptr 4466 [], .ow 5 4467 [] 0 x3 none] [(4464, .box false 37 (PV.ar 37 x4)), (4465, .box false 118 (PV.ar 118 x5)), (4466, .box false 112 (PV.ar 112 x6)), (4467, .vec false 5 false x7)])) v0 v1 v2 v3 v4 v5 v6 v7) (by funext v0 v1 v2 v3 v4 v5 v6 v7; exact JkD f k n v0 v1 v2 v3 v4 v5 v6 v7))
def Jcu (f : Nat) : List PV -> List (Nat × Ent) -> Kont -> Option Res
 | [.ro 5 v0 v1 v2, .ptr 4464 [], .ptr 4465 [], .ptr 4466 [],
 PV.ow 5 4467 [] 0 v3
  none], [(4464, .box false 37 (PV.ar 37 v4)), (4465, .box false 118 (PV.ar 118 v5)), (4466, .box false 112 (PV.ar 112 v6)),
 (4467,
  Ent.vec false 5 false
   v7)], k => VT f (fun x0 x1 x2 x3 x4 x5 x6 x7 => k (Ex.exit
 0) (Jd ZN N28 [.ro 5 x0 x1 x2, .ptr 4464 [], .ptr 4465 [], .ptr 4466 [],
 PV.ow 5 4467 [] 0 x3
  none] [(4464, .box false 37 (PV.ar 37 x4)), (4465, .box false 118 (PV.ar 118 x5)), (4466, .box false 112 (PV.ar 112 x6)), (4467, .vec false 5 false x7)])) f v0 v1 v2 v3 v4 v5 v6 v7
 | _, _, _ => none
theorem Jwz (f : Nat) : Je JdK JgL = [] := by kernel_rfl
theorem JCn (f : Nat) : (Item.l JdK YH N28 (Jcu f)).Ok tau Try.prog 0 := JI Jq YG Jr (x := JgL) (nm2 := ZN) (Js _ _ (by rw [Jwz f]; intro q hq; cases hq)) fun vs hp k res hr => by
 unfold Jcu at hr
 split at hr
 · exact ⟨f, 0, (JkD f _ f _ _ _ _ _ _ _ _ ).trans hr⟩
 · cases hr
def GP (f : Nat) (rc : Nat -> Int -> Int -> List PV -> List PV -> List PV -> List PV -> Option Res) (k0 : Nat -> List PV -> List PV -> List PV -> List PV -> Option Res) (v0 : Nat) (v1 v2 : Int) (v3 v4 v5 v6 : List PV) : Option Res := bif decide (v2 >= 0) then bif decide (0 <= IntKind.u64.wrap (8 * IntKind.u64.wrap v2)) && true then bif Jl (v0 + 1) 1 && true then rc (v0 + 1) v1 (IntKind.i64.wrap (v2 - 1)) v3 v4 v5 (List.take v0 v6 ++ [.sc (.int .u8 (IntKind.u8.wrap (JD IntKind.u64 v1 (IntKind.u64.wrap (8 * IntKind.u64.wrap v2)))))]) else none else none else k0 v0 v3 v4 v5 v6
def VU (f : Nat) (k0 : Nat -> List PV -> List PV -> List PV -> List PV -> Option Res) : Nat -> Nat -> Int -> Int -> List PV -> List PV -> List PV -> List PV -> Option Res
 | 0, _, _, _, _, _, _, _ => none
 | n + 1, v0, v1, v2, v3, v4, v5, v6 => GP f (VU f k0 n) k0 v0 v1 v2 v3 v4 v5 v6
theorem Jq1 (f : Nat) (k : Kont) (n v0 : Nat) (v1 v2 : Int) (v3 v4 v5 v6 : List PV) : Jn tau 0 YI (fun s k => ev tau F28 0 0 JdL (JgM ) s k) (n + 1) (Jd YI N28 [.ptr 4464 [], .ptr 4465 [], .ptr 4466 [], .ow 5 4467 [] 0 v0 none, .sc (.int .u64 v1), .sc (.int .i64 v2)] [(4464, .box false 37 (PV.ar 37 v3)), (4465, .box false 118 (PV.ar 118 v4)), (4466, .box false 112 (PV.ar 112 v5)), (4467, .vec false 5 false v6)]) (Jt tau 0 ZO k) = GP f (fun v0 v1 v2 v3 v4 v5 v6 => Jn tau 0 YI (fun s k => ev tau F28 0 0 JdL (JgM ) s k) n (Jd YI N28 [.ptr 4464 [], .ptr 4465 [], .ptr 4466 [], .ow 5 4467 [] 0 v0 none, .sc (.int .u64 v1), .sc (.int .i64 v2)] [(4464, .box false 37 (PV.ar 37 v3)), (4465, .box false 118 (PV.ar 118 v4)), (4466, .box false 112 (PV.ar 112 v5)), (4467, .vec false 5 false v6)]) (Jt tau 0 ZO k)) (fun x0 x1 x2 x3 x4 => k (Ex.exit 2) (Jd ZO N28 [.ptr 4464 [], .ptr 4465 [], .ptr 4466 [], .ow 5 4467 [] 0 x0 none] [(4464, .box false 37 (PV.ar 37 x1)), (4465, .box false 118 (PV.ar 118 x2)), (4466, .box false 112 (PV.ar 112 x3)), (4467, .vec false 5 false x4)])) v0 v1 v2 v3 v4 v5 v6 := by kernel_rfl
theorem JkE (f : Nat) (k : Kont) : ∀ (n v0 : Nat) (v1 v2 : Int) (v3 v4 v5 v6 : List PV), Jn tau 0 YI (fun s k => ev tau F28 0 0 JdL (JgM ) s k) n (Jd YI N28 [.ptr 4464 [], .ptr 4465 [], .ptr 4466 [], .ow 5 4467 [] 0 v0 none, .sc (.int .u64 v1), .sc (.int .i64 v2)] [(4464, .box false 37 (PV.ar 37 v3)), (4465, .box false 118 (PV.ar 118 v4)), (4466, .box false 112 (PV.ar 112 v5)), (4467, .vec false 5 false v6)]) (Jt tau 0 ZO k) = VU f (fun x0 x1 x2 x3 x4 => k (Ex.exit 2) (Jd ZO N28 [.ptr 4464 [], .ptr 4465 [], .ptr 4466 [], .ow 5 4467 [] 0 x0 none] [(4464, .box false 37 (PV.ar 37 x1)), (4465, .box false 118 (PV.ar 118 x2)), (4466, .box false 112 (PV.ar 112 x3)), (4467, .vec false 5 false x4)])) n v0 v1 v2 v3 v4 v5 v6 | 0, _, _, _, _, _, _, _ => rfl | n + 1, v0, v1, v2, v3, v4, v5, v6 => (Jq1 f k n v0 v1 v2 v3 v4 v5 v6).trans (congrArg (fun r => GP f r (fun x0 x1 x2 x3 x4 => k (Ex.exit 2) (Jd ZO N28 [.ptr 4464 [], .ptr 4465 [], .ptr 4466 [], .ow 5 4467 [] 0 x0 none] [(4464, .box false 37 (PV.ar 37 x1)), (4465, .box false 118 (PV.ar 118 x2)), (4466, .box false 112 (PV.ar 112 x3)), (4467, .vec false 5 false x4)])) v0 v1 v2 v3 v4 v5 v6) (by funext v0 v1 v2 v3 v4 v5 v6; exact JkE f k n v0 v1 v2 v3 v4 v5 v6))
def Jcv (f : Nat) : List PV -> List (Nat × Ent) -> Kont -> Option Res
 | [.ptr 4464 [], .ptr 4465 [], .ptr 4466 [], .ow 5 4467 [] 0 v0 none, .sc (.int .u64 v1),
 PV.sc
  (Value.int IntKind.i64
   v2)], [(4464, .box false 37 (PV.ar 37 v3)), (4465, .box false 118 (PV.ar 118 v4)), (4466, .box false 112 (PV.ar 112 v5)),
 (4467,
  Ent.vec false 5 false
   v6)], k => VU f (fun x0 x1 x2 x3 x4 => k (Ex.exit
 2) (Jd ZO N28 [.ptr 4464 [], .ptr 4465 [], .ptr 4466 [],
 PV.ow 5 4467 [] 0 x0
  none] [(4464, .box false 37 (PV.ar 37 x1)), (4465, .box false 118 (PV.ar 118 x2)), (4466, .box false 112 (PV.ar 112 x3)), (4467, .vec false 5 false x4)])) f v0 v1 v2 v3 v4 v5 v6
 | _, _, _ => none
theorem JwA (f : Nat) : Je JdL JgM = [] := by kernel_rfl
theorem JCo (f : Nat) : (Item.l JdL YI N28 (Jcv f)).Ok tau Try.prog 0 := JI Jq YG Jr (x := JgM) (nm2 := ZO) (Js _ _ (by rw [JwA f]; intro q hq; cases hq)) fun vs hp k res hr => by
 unfold Jcv at hr
 split at hr
 · exact ⟨f, 0, (JkE f _ f _ _ _ _ _ _ _ ).trans hr⟩
 · cases hr
def GQ (f : Nat) (rc : Nat -> Int -> Int -> List PV -> List PV -> List PV -> List PV -> List PV -> Option Res) (k0 : Nat -> Int -> List PV -> List PV -> List PV -> List PV -> List PV -> Option Res) (v0 : Nat) (v1 v2 : Int) (v3 v4 v5 v6 v7 : List PV) : Option Res := bif decide (v2 < 16) then bif decide (0 <= IntKind.i64.wrap (v1 + IntKind.i64.wrap (4 * v2))) && decide (IntKind.i64.wrap (v1 + IntKind.i64.wrap (4 * v2)) < zi v0) && true then bif PV.isInt IntKind.u8 (Jm (v6.getD (0 + (IntKind.i64.wrap (v1 + IntKind.i64.wrap (4 * v2))).toNat) PV.top) []) && true then bif decide (0 <= IntKind.i64.wrap (IntKind.i64.wrap (v1 + IntKind.i64.wrap (4 * v2)) + 1)) && decide (IntKind.i64.wrap (IntKind.i64.wrap (v1 + IntKind.i64.wrap (4 * v2)) + 1) < zi v0) && true then bif PV.isInt IntKind.u8 (Jm (v6.getD (0 + (IntKind.i64.wrap (IntKind.i64.wrap (v1 + IntKind.i64.wrap (4 * v2)) + 1)).toNat) PV.top) []) && true then bif decide (0 <= IntKind.i64.wrap (IntKind.i64.wrap (v1 + IntKind.i64.wrap (4 * v2)) + 2)) && decide (IntKind.i64.wrap (IntKind.i64.wrap (v1 + IntKind.i64.wrap (4 * v2)) + 2) < zi v0) && true then bif PV.isInt IntKind.u8 (Jm (v6.getD (0 + (IntKind.i64.wrap (IntKind.i64.wrap (v1 + IntKind.i64.wrap (4 * v2)) + 2)).toNat) PV.top) []) && true then bif decide (0 <= IntKind.i64.wrap (IntKind.i64.wrap (v1 + IntKind.i64.wrap (4 * v2)) + 3)) && decide (IntKind.i64.wrap (IntKind.i64.wrap (v1 + IntKind.i64.wrap (4 * v2)) + 3) < zi v0) && true then bif PV.isInt IntKind.u8 (Jm (v6.getD (0 + (IntKind.i64.wrap (IntKind.i64.wrap (v1 + IntKind.i64.wrap (4 * v2)) + 3)).toNat) PV.top) []) && true then bif decide (0 <= v2) && decide (v2 < zi 64) && true then rc v0 v1 (IntKind.i64.wrap (v2 + 1)) v3 v4 v5 v6 (v7.set v2.toNat (.sc (.int .u32 (JH BinOp.or IntKind.u32 (JH BinOp.or IntKind.u32 (JH BinOp.or IntKind.u32 (WN IntKind.u32 (IntKind.u32.wrap (Jm (v6.getD (0 + (IntKind.i64.wrap (v1 + IntKind.i64.wrap (4 * v2))).toNat) PV.top) []).int) 24) (WN IntKind.u32 (IntKind.u32.wrap (Jm (v6.getD (0 + (IntKind.i64.wrap (IntKind.i64.wrap (v1 + IntKind.i64.wrap (4 * v2)) + 1)).toNat) PV.top) []).int) 16)) (WN IntKind.u32 (IntKind.u32.wrap (Jm (v6.getD (0 + (IntKind.i64.wrap (IntKind.i64.wrap (v1 + IntKind.i64.wrap (4 * v2)) + 2)).toNat) PV.top) []).int) 8)) (IntKind.u32.wrap (Jm (v6.getD (0 + (IntKind.i64.wrap (IntKind.i64.wrap (v1 + IntKind.i64.wrap (4 * v2)) + 3)).toNat) PV.top) []).int))))) else none else none else none else none else none else none else none else none else none else k0 v0 v1 v3 v4 v5 v6 v7
def VV (f : Nat) (k0 : Nat -> Int -> List PV -> List PV -> List PV -> List PV -> List PV -> Option Res) : Nat -> Nat -> Int -> Int -> List PV -> List PV -> List PV -> List PV -> List PV -> Option Res
 | 0, _, _, _, _, _, _, _, _ => none
 | n + 1, v0, v1, v2, v3, v4, v5, v6, v7 => GQ f (VV f k0 n) k0 v0 v1 v2 v3 v4 v5 v6 v7
theorem Jq2 (f : Nat) (k : Kont) (n v0 : Nat) (v1 v2 : Int) (v3 v4 v5 v6 v7 : List PV) : Jn tau 0 YJ (fun s k => ev tau F28 0 0 JdM (JgN ) s k) (n + 1) (Jd YJ N28 [.ptr 4464 [], .ptr 4465 [], .ptr 4466 [], .ow 5 4467 [] 0 v0 none, .ptr 4468 [], .sc (.int .i64 v1), .sc (.int .i64 v2)] [(4464, .box false 37 (PV.ar 37 v3)), (4465, .box false 118 (PV.ar 118 v4)), (4466, .box false 112 (PV.ar 112 v5)), (4467, .vec false 5 false v6), (4468, .box false 118 (PV.ar 118 v7))]) (Jt tau 0 ZP k) = GQ f (fun v0 v1 v2 v3 v4 v5 v6 v7 => Jn tau 0 YJ (fun s k => ev tau F28 0 0 JdM (JgN ) s k) n (Jd YJ N28 [.ptr 4464 [], .ptr 4465 [], .ptr 4466 [], .ow 5 4467 [] 0 v0 none, .ptr 4468 [], .sc (.int .i64 v1), .sc (.int .i64 v2)] [(4464, .box false 37 (PV.ar 37 v3)), (4465, .box false 118 (PV.ar 118 v4)), (4466, .box false 112 (PV.ar 112 v5)), (4467, .vec false 5 false v6), (4468, .box false 118 (PV.ar 118 v7))]) (Jt tau 0 ZP k)) (fun x0 x1 x2 x3 x4 x5 x6 => k (Ex.exit 6) (Jd ZP N28 [.ptr 4464 [], .ptr 4465 [], .ptr 4466 [], .ow 5 4467 [] 0 x0 none, .ptr 4468 [], .sc (.int .i64 x1)] [(4464, .box false 37 (PV.ar 37 x2)), (4465, .box false 118 (PV.ar 118 x3)), (4466, .box false 112 (PV.ar 112 x4)), (4467, .vec false 5 false x5), (4468, .box false 118 (PV.ar 118 x6))])) v0 v1 v2 v3 v4 v5 v6 v7 := by kernel_rfl
theorem JkF (f : Nat) (k : Kont) : ∀ (n v0 : Nat) (v1 v2 : Int) (v3 v4 v5 v6 v7 : List PV), Jn tau 0 YJ (fun s k => ev tau F28 0 0 JdM (JgN ) s k) n (Jd YJ N28 [.ptr 4464 [], .ptr 4465 [], .ptr 4466 [], .ow 5 4467 [] 0 v0 none, .ptr 4468 [], .sc (.int .i64 v1), .sc (.int .i64 v2)] [(4464, .box false 37 (PV.ar 37 v3)), (4465, .box false 118 (PV.ar 118 v4)), (4466, .box false 112 (PV.ar 112 v5)), (4467, .vec false 5 false v6), (4468, .box false 118 (PV.ar 118 v7))]) (Jt tau 0 ZP k) = VV f (fun x0 x1 x2 x3 x4 x5 x6 => k (Ex.exit 6) (Jd ZP N28 [.ptr 4464 [], .ptr 4465 [], .ptr 4466 [], .ow 5 4467 [] 0 x0 none, .ptr 4468 [], .sc (.int .i64 x1)] [(4464, .box false 37 (PV.ar 37 x2)), (4465, .box false 118 (PV.ar 118 x3)), (4466, .box false 112 (PV.ar 112 x4)), (4467, .vec false 5 false x5), (4468, .box false 118 (PV.ar 118 x6))])) n v0 v1 v2 v3 v4 v5 v6 v7 | 0, _, _, _, _, _, _, _, _ => rfl | n + 1, v0, v1, v2, v3, v4, v5, v6, v7 => (Jq2 f k n v0 v1 v2 v3 v4 v5 v6 v7).trans (congrArg (fun r => GQ f r (fun x0 x1 x2 x3 x4 x5 x6 => k (Ex.exit 6) (Jd ZP N28 [.ptr 4464 [], .ptr 4465 [], .ptr 4466 [], .ow 5 4467 [] 0 x0 none, .ptr 4468 [], .sc (.int .i64 x1)] [(4464, .box false 37 (PV.ar 37 x2)), (4465, .box false 118 (PV.ar 118 x3)), (4466, .box false 112 (PV.ar 112 x4)), (4467, .vec false 5 false x5), (4468, .box false 118 (PV.ar 118 x6))])) v0 v1 v2 v3 v4 v5 v6 v7) (by funext v0 v1 v2 v3 v4 v5 v6 v7; exact JkF f k n v0 v1 v2 v3 v4 v5 v6 v7))
def Ja5 (f : Nat) : List PV -> List (Nat × Ent) -> Kont -> Option Res
 | [.ptr 4464 [], .ptr 4465 [], .ptr 4466 [], .ow 5 4467 [] 0 v0 none, .ptr 4468 [], .sc (.int .i64 v1),
 PV.sc
  (Value.int IntKind.i64
   v2)], [(4464, .box false 37 (PV.ar 37 v3)), (4465, .box false 118 (PV.ar 118 v4)), (4466, .box false 112 (PV.ar 112 v5)), (4467, .vec false 5 false v6),
 (4468,
  Ent.box false 118
   (PV.ar 118
    v7))], k => VV f (fun x0 x1 x2 x3 x4 x5 x6 => k (Ex.exit
 6) (Jd ZP N28 [.ptr 4464 [], .ptr 4465 [], .ptr 4466 [], .ow 5 4467 [] 0 x0 none, .ptr 4468 [],
 PV.sc
  (Value.int IntKind.i64
   x1)] [(4464, .box false 37 (PV.ar 37 x2)), (4465, .box false 118 (PV.ar 118 x3)), (4466, .box false 112 (PV.ar 112 x4)), (4467, .vec false 5 false x5),
 (4468, .box false 118 (PV.ar 118 x6))])) f v0 v1 v2 v3 v4 v5 v6 v7
 | _, _, _ => none
theorem JwB (f : Nat) : Je JdM JgN = [] := by kernel_rfl
theorem JCp (f : Nat) : (Item.l JdM YJ N28 (Ja5 f)).Ok tau Try.prog 0 := JI Jq YG Jr (x := JgN) (nm2 := ZP) (Js _ _ (by rw [JwB f]; intro q hq; cases hq)) fun vs hp k res hr => by
 unfold Ja5 at hr
 split at hr
 · exact ⟨f, 0, (JkF f _ f _ _ _ _ _ _ _ _ ).trans hr⟩
 · cases hr
def GR (f : Nat) (rc : Nat -> Int -> Int -> List PV -> List PV -> List PV -> List PV -> List PV -> Option Res) (k0 : Nat -> Int -> List PV -> List PV -> List PV -> List PV -> List PV -> Option Res) (v0 : Nat) (v1 v2 : Int) (v3 v4 v5 v6 v7 : List PV) : Option Res := bif decide (v2 < 64) then bif decide (0 <= IntKind.i64.wrap (v2 - 15)) && decide (IntKind.i64.wrap (v2 - 15) < zi 64) && true then bif PV.isInt IntKind.u32 (Jm (PV.ar 118 v7) [(IntKind.i64.wrap (v2 - 15)).toNat]) && true then bif decide (0 <= IntKind.i64.wrap (v2 - 2)) && decide (IntKind.i64.wrap (v2 - 2) < zi 64) && true then bif PV.isInt IntKind.u32 (Jm (PV.ar 118 v7) [(IntKind.i64.wrap (v2 - 2)).toNat]) && true then bif decide (0 <= IntKind.i64.wrap (v2 - 7)) && decide (IntKind.i64.wrap (v2 - 7) < zi 64) && true then bif PV.isInt IntKind.u32 (Jm (PV.ar 118 v7) [(IntKind.i64.wrap (v2 - 7)).toNat]) && true then bif decide (0 <= IntKind.i64.wrap (v2 - 16)) && decide (IntKind.i64.wrap (v2 - 16) < zi 64) && true then bif PV.isInt IntKind.u32 (Jm (PV.ar 118 v7) [(IntKind.i64.wrap (v2 - 16)).toNat]) && true then bif decide (0 <= v2) && decide (v2 < zi 64) && true then rc v0 v1 (IntKind.i64.wrap (v2 + 1)) v3 v4 v5 v6 (v7.set v2.toNat (.sc (.int .u32 (IntKind.u32.wrap (IntKind.u32.wrap (IntKind.u32.wrap (JH BinOp.xor IntKind.u32 (JH BinOp.xor IntKind.u32 (rr (Jm (PV.ar 118 v7) [(IntKind.i64.wrap (v2 - 2)).toNat]).int 17) (rr (Jm (PV.ar 118 v7) [(IntKind.i64.wrap (v2 - 2)).toNat]).int 19)) (JD IntKind.u32 (Jm (PV.ar 118 v7) [(IntKind.i64.wrap (v2 - 2)).toNat]).int 10) + (Jm (PV.ar 118 v7) [(IntKind.i64.wrap (v2 - 7)).toNat]).int) + JH BinOp.xor IntKind.u32 (JH BinOp.xor IntKind.u32 (rr (Jm (PV.ar 118 v7) [(IntKind.i64.wrap (v2 - 15)).toNat]).int 7) (rr (Jm (PV.ar 118 v7) [(IntKind.i64.wrap (v2 - 15)).toNat]).int 18)) (JD IntKind.u32 (Jm (PV.ar 118 v7) [(IntKind.i64.wrap (v2 - 15)).toNat]).int 3)) + (Jm (PV.ar 118 v7) [(IntKind.i64.wrap (v2 - 16)).toNat]).int))))) else none else none else none else none else none else none else none else none else none else k0 v0 v1 v3 v4 v5 v6 v7
def VW (f : Nat) (k0 : Nat -> Int -> List PV -> List PV -> List PV -> List PV -> List PV -> Option Res) : Nat -> Nat -> Int -> Int -> List PV -> List PV -> List PV -> List PV -> List PV -> Option Res
 | 0, _, _, _, _, _, _, _, _ => none
 | n + 1, v0, v1, v2, v3, v4, v5, v6, v7 => GR f (VW f k0 n) k0 v0 v1 v2 v3 v4 v5 v6 v7
theorem Jq3 (f : Nat) (k : Kont) (n v0 : Nat) (v1 v2 : Int) (v3 v4 v5 v6 v7 : List PV) : Jn tau 0 YK (fun s k => ev tau F28 0 0 JdN (JgO ) s k) (n + 1) (Jd YK N28 [.ptr 4464 [], .ptr 4465 [], .ptr 4466 [], .ow 5 4467 [] 0 v0 none, .ptr 4468 [], .sc (.int .i64 v1), .sc (.int .i64 v2)] [(4464, .box false 37 (PV.ar 37 v3)), (4465, .box false 118 (PV.ar 118 v4)), (4466, .box false 112 (PV.ar 112 v5)), (4467, .vec false 5 false v6), (4468, .box false 118 (PV.ar 118 v7))]) (Jt tau 0 ZQ k) = GR f (fun v0 v1 v2 v3 v4 v5 v6 v7 => Jn tau 0 YK (fun s k => ev tau F28 0 0 JdN (JgO ) s k) n (Jd YK N28 [.ptr 4464 [], .ptr 4465 [], .ptr 4466 [], .ow 5 4467 [] 0 v0 none, .ptr 4468 [], .sc (.int .i64 v1), .sc (.int .i64 v2)] [(4464, .box false 37 (PV.ar 37 v3)), (4465, .box false 118 (PV.ar 118 v4)), (4466, .box false 112 (PV.ar 112 v5)), (4467, .vec false 5 false v6), (4468, .box false 118 (PV.ar 118 v7))]) (Jt tau 0 ZQ k)) (fun x0 x1 x2 x3 x4 x5 x6 => k (Ex.exit 8) (Jd ZQ N28 [.ptr 4464 [], .ptr 4465 [], .ptr 4466 [], .ow 5 4467 [] 0 x0 none, .ptr 4468 [], .sc (.int .i64 x1)] [(4464, .box false 37 (PV.ar 37 x2)), (4465, .box false 118 (PV.ar 118 x3)), (4466, .box false 112 (PV.ar 112 x4)), (4467, .vec false 5 false x5), (4468, .box false 118 (PV.ar 118 x6))])) v0 v1 v2 v3 v4 v5 v6 v7 := by kernel_rfl
theorem JkG (f : Nat) (k : Kont) : ∀ (n v0 : Nat) (v1 v2 : Int) (v3 v4 v5 v6 v7 : List PV), Jn tau 0 YK (fun s k => ev tau F28 0 0 JdN (JgO ) s k) n (Jd YK N28 [.ptr 4464 [], .ptr 4465 [], .ptr 4466 [], .ow 5 4467 [] 0 v0 none, .ptr 4468 [], .sc (.int .i64 v1), .sc (.int .i64 v2)] [(4464, .box false 37 (PV.ar 37 v3)), (4465, .box false 118 (PV.ar 118 v4)), (4466, .box false 112 (PV.ar 112 v5)), (4467, .vec false 5 false v6), (4468, .box false 118 (PV.ar 118 v7))]) (Jt tau 0 ZQ k) = VW f (fun x0 x1 x2 x3 x4 x5 x6 => k (Ex.exit 8) (Jd ZQ N28 [.ptr 4464 [], .ptr 4465 [], .ptr 4466 [], .ow 5 4467 [] 0 x0 none, .ptr 4468 [], .sc (.int .i64 x1)] [(4464, .box false 37 (PV.ar 37 x2)), (4465, .box false 118 (PV.ar 118 x3)), (4466, .box false 112 (PV.ar 112 x4)), (4467, .vec false 5 false x5), (4468, .box false 118 (PV.ar 118 x6))])) n v0 v1 v2 v3 v4 v5 v6 v7 | 0, _, _, _, _, _, _, _, _ => rfl | n + 1, v0, v1, v2, v3, v4, v5, v6, v7 => (Jq3 f k n v0 v1 v2 v3 v4 v5 v6 v7).trans (congrArg (fun r => GR f r (fun x0 x1 x2 x3 x4 x5 x6 => k (Ex.exit 8) (Jd ZQ N28 [.ptr 4464 [], .ptr 4465 [], .ptr 4466 [], .ow 5 4467 [] 0 x0 none, .ptr 4468 [], .sc (.int .i64 x1)] [(4464, .box false 37 (PV.ar 37 x2)), (4465, .box false 118 (PV.ar 118 x3)), (4466, .box false 112 (PV.ar 112 x4)), (4467, .vec false 5 false x5), (4468, .box false 118 (PV.ar 118 x6))])) v0 v1 v2 v3 v4 v5 v6 v7) (by funext v0 v1 v2 v3 v4 v5 v6 v7; exact JkG f k n v0 v1 v2 v3 v4 v5 v6 v7))
def Ja6 (f : Nat) : List PV -> List (Nat × Ent) -> Kont -> Option Res
 | [.ptr 4464 [], .ptr 4465 [], .ptr 4466 [], .ow 5 4467 [] 0 v0 none, .ptr 4468 [], .sc (.int .i64 v1),
 PV.sc
  (Value.int IntKind.i64
   v2)], [(4464, .box false 37 (PV.ar 37 v3)), (4465, .box false 118 (PV.ar 118 v4)), (4466, .box false 112 (PV.ar 112 v5)), (4467, .vec false 5 false v6),
 (4468,
  Ent.box false 118
   (PV.ar 118
    v7))], k => VW f (fun x0 x1 x2 x3 x4 x5 x6 => k (Ex.exit
 8) (Jd ZQ N28 [.ptr 4464 [], .ptr 4465 [], .ptr 4466 [], .ow 5 4467 [] 0 x0 none, .ptr 4468 [],
 PV.sc
  (Value.int IntKind.i64
   x1)] [(4464, .box false 37 (PV.ar 37 x2)), (4465, .box false 118 (PV.ar 118 x3)), (4466, .box false 112 (PV.ar 112 x4)), (4467, .vec false 5 false x5),
 (4468, .box false 118 (PV.ar 118 x6))])) f v0 v1 v2 v3 v4 v5 v6 v7
 | _, _, _ => none
theorem JwC (f : Nat) : Je JdN JgO = [] := by kernel_rfl
theorem JCq (f : Nat) : (Item.l JdN YK N28 (Ja6 f)).Ok tau Try.prog 0 := JI Jq YG Jr (x := JgO) (nm2 := ZQ) (Js _ _ (by rw [JwC f]; intro q hq; cases hq)) fun vs hp k res hr => by
 unfold Ja6 at hr
 split at hr
 · exact ⟨f, 0, (JkG f _ f _ _ _ _ _ _ _ _ ).trans hr⟩
 · cases hr
def GS (f : Nat) (rc : Nat -> Int -> Int -> List PV -> List PV -> List PV -> List PV -> List PV -> List PV -> Option Res) (k0 : Nat -> Int -> List PV -> List PV -> List PV -> List PV -> List PV -> List PV -> Option Res) (v0 : Nat) (v1 v2 : Int) (v3 v4 v5 v6 v7 v8 : List PV) : Option Res := bif decide (v2 < 64) then bif PV.isInt IntKind.u32 (Jm (PV.ar 112 v8) [4]) && true then bif PV.isInt IntKind.u32 (Jm (PV.ar 112 v8) [7]) && true then bif PV.isInt IntKind.u32 (Jm (PV.ar 112 v8) [5]) && true then bif PV.isInt IntKind.u32 (Jm (PV.ar 112 v8) [6]) && true then bif decide (0 <= v2) && decide (v2 < zi 64) && true then bif PV.isInt IntKind.u32 (Jm (PV.ar 118 v4) [v2.toNat]) && true then bif decide (0 <= v2) && decide (v2 < zi 64) && true then bif PV.isInt IntKind.u32 (Jm (PV.ar 118 v7) [v2.toNat]) && true then bif PV.isInt IntKind.u32 (Jm (PV.ar 112 v8) [0]) && true then bif PV.isInt IntKind.u32 (Jm (PV.ar 112 v8) [0]) && true then bif PV.isInt IntKind.u32 (Jm (PV.ar 112 v8) [0]) && true then bif PV.isInt IntKind.u32 (Jm (PV.ar 112 v8) [0]) && true then bif PV.isInt IntKind.u32 (Jm (PV.ar 112 v8) [1]) && true then bif PV.isInt IntKind.u32 (Jm (PV.ar 112 v8) [0]) && true then bif PV.isInt IntKind.u32 (Jm (PV.ar 112 v8) [2]) && true then bif PV.isInt IntKind.u32 (Jm (PV.ar 112 v8) [1]) && true then bif PV.isInt IntKind.u32 (Jm (PV.ar 112 v8) [2]) && true then bif PV.isInt IntKind.u32 (Jm (PV.ar 112 v8) [0]) && true then bif PV.isInt IntKind.u32 (Jm (PV.ar 112 v8) [1]) && true then bif PV.isInt IntKind.u32 (Jm (PV.ar 112 v8) [2]) && true then bif PV.isInt IntKind.u32 (Jm (PV.ar 112 v8) [3]) && true then bif PV.isInt IntKind.u32 (Jm (PV.ar 112 v8) [4]) && true then bif PV.isInt IntKind.u32 (Jm (PV.ar 112 v8) [5]) && true then bif PV.isInt IntKind.u32 (Jm (PV.ar 112 v8) [6]) && true then rc v0 v1 (IntKind.i64.wrap (v2 + 1)) v3 v4 v5 v6 v7 ([.sc (.int .u32 (IntKind.u32.wrap (IntKind.u32.wrap (IntKind.u32.wrap (IntKind.u32.wrap (IntKind.u32.wrap ((Jm (PV.ar 112 v8) [7]).int + JH BinOp.xor IntKind.u32 (JH BinOp.xor IntKind.u32 (rr (Jm (PV.ar 112 v8) [4]).int 6) (rr (Jm (PV.ar 112 v8) [4]).int 11)) (rr (Jm (PV.ar 112 v8) [4]).int 25)) + JH BinOp.xor IntKind.u32 (JH BinOp.and IntKind.u32 (Jm (PV.ar 112 v8) [4]).int (Jm (PV.ar 112 v8) [5]).int) (JH BinOp.and IntKind.u32 (JH BinOp.xor IntKind.u32 (Int.ofNat (2 ^ IntKind.u32.bits - Nat.succ 0)) (Jm (PV.ar 112 v8) [4]).int) (Jm (PV.ar 112 v8) [6]).int)) + (Jm (PV.ar 118 v4) [v2.toNat]).int) + (Jm (PV.ar 118 v7) [v2.toNat]).int) + IntKind.u32.wrap (JH BinOp.xor IntKind.u32 (JH BinOp.xor IntKind.u32 (rr (Jm (PV.ar 112 v8) [0]).int 2) (rr (Jm (PV.ar 112 v8) [0]).int 13)) (rr (Jm (PV.ar 112 v8) [0]).int 22) + JH BinOp.xor IntKind.u32 (JH BinOp.xor IntKind.u32 (JH BinOp.and IntKind.u32 (Jm (PV.ar 112 v8) [0]).int (Jm (PV.ar 112 v8) [1]).int) (JH BinOp.and IntKind.u32 (Jm (PV.ar 112 v8) [0]).int (Jm (PV.ar 112 v8) [2]).int)) (JH BinOp.and IntKind.u32 (Jm (PV.ar 112 v8) [1]).int (Jm (PV.ar 112 v8) [2]).int))))), .sc (.int .u32 (Jm (PV.ar 112 v8) [0]).int), .sc (.int .u32 (Jm (PV.ar 112 v8) [1]).int), .sc (.int .u32 (Jm (PV.ar 112 v8) [2]).int), .sc (.int .u32 (IntKind.u32.wrap ((Jm (PV.ar 112 v8) [3]).int + IntKind.u32.wrap (IntKind.u32.wrap (IntKind.u32.wrap (IntKind.u32.wrap ((Jm (PV.ar 112 v8) [7]).int + JH BinOp.xor IntKind.u32 (JH BinOp.xor IntKind.u32 (rr (Jm (PV.ar 112 v8) [4]).int 6) (rr (Jm (PV.ar 112 v8) [4]).int 11)) (rr (Jm (PV.ar 112 v8) [4]).int 25)) + JH BinOp.xor IntKind.u32 (JH BinOp.and IntKind.u32 (Jm (PV.ar 112 v8) [4]).int (Jm (PV.ar 112 v8) [5]).int) (JH BinOp.and IntKind.u32 (JH BinOp.xor IntKind.u32 (Int.ofNat (2 ^ IntKind.u32.bits - Nat.succ 0)) (Jm (PV.ar 112 v8) [4]).int) (Jm (PV.ar 112 v8) [6]).int)) + (Jm (PV.ar 118 v4) [v2.toNat]).int) + (Jm (PV.ar 118 v7) [v2.toNat]).int)))), .sc (.int .u32 (Jm (PV.ar 112 v8) [4]).int), .sc (.int .u32 (Jm (PV.ar 112 v8) [5]).int), .sc (.int .u32 (Jm (PV.ar 112 v8) [6]).int)]) else none else none else none else none else none else none else none else none else none else none else none else none else none else none else none else none else none else none else none else none else none else none else none else none else k0 v0 v1 v3 v4 v5 v6 v7 v8
def VX (f : Nat) (k0 : Nat -> Int -> List
 PV -> List PV -> List PV -> List PV -> List PV -> List PV -> Option Res) : Nat -> Nat -> Int -> Int -> List PV -> List PV -> List PV -> List PV -> List PV -> List PV -> Option Res
 | 0, _, _, _, _, _, _, _, _, _ => none
 | n + 1, v0, v1, v2, v3, v4, v5, v6, v7, v8 => GS f (VX f k0 n) k0 v0 v1 v2 v3 v4 v5 v6 v7 v8
theorem Jq4 (f : Nat) (k : Kont) (n v0 : Nat) (v1 v2 : Int) (v3 v4 v5 v6 v7 v8 : List PV) : Jn tau 0 YL (fun s k => ev tau F28 0 0 JdO (JgP ) s k) (n + 1) (Jd YL N28 [.ptr 4464 [], .ptr 4465 [], .ptr 4466 [], .ow 5 4467 [] 0 v0 none, .ptr 4468 [], .sc (.int .i64 v1), .ptr 4469 [], .sc (.int .i64 v2)] [(4464, .box false 37 (PV.ar 37 v3)), (4465, .box false 118 (PV.ar 118 v4)), (4466, .box false 112 (PV.ar 112 v5)), (4467, .vec false 5 false v6), (4468, .box false 118 (PV.ar 118 v7)), (4469, .box false 112 (PV.ar 112 v8))]) (Jt tau 0 ZR k) = GS f (fun v0 v1 v2 v3 v4 v5 v6 v7 v8 => Jn tau 0 YL (fun s k => ev tau F28 0 0 JdO (JgP ) s k) n (Jd YL N28 [.ptr 4464 [], .ptr 4465 [], .ptr 4466 [], .ow 5 4467 [] 0 v0 none, .ptr 4468 [], .sc (.int .i64 v1), .ptr 4469 [], .sc (.int .i64 v2)] [(4464, .box false 37 (PV.ar 37 v3)), (4465, .box false 118 (PV.ar 118 v4)), (4466, .box false 112 (PV.ar 112 v5)), (4467, .vec false 5 false v6), (4468, .box false 118 (PV.ar 118 v7)), (4469, .box false 112 (PV.ar 112 v8))]) (Jt tau 0 ZR k)) (fun x0 x1 x2 x3 x4 x5 x6 x7 => k (Ex.exit 10) (Jd ZR N28 [.ptr 4464 [], .ptr 4465 [], .ptr 4466 [], .ow 5 4467 [] 0 x0 none, .ptr 4468 [], .sc (.int .i64 x1), .ptr 4469 []] [(4464, .box false 37 (PV.ar 37 x2)), (4465, .box false 118 (PV.ar 118 x3)), (4466, .box false 112 (PV.ar 112 x4)), (4467, .vec false 5 false x5), (4468, .box false 118 (PV.ar 118 x6)), (4469, .box false 112 (PV.ar 112 x7))])) v0 v1 v2 v3 v4 v5 v6 v7 v8 := by kernel_rfl
theorem JkH (f : Nat) (k : Kont) : ∀ (n v0 : Nat) (v1 v2 : Int) (v3 v4 v5 v6 v7 v8 : List PV), Jn tau 0 YL (fun s k => ev tau F28 0 0 JdO (JgP ) s k) n (Jd YL N28 [.ptr 4464 [], .ptr 4465 [], .ptr 4466 [], .ow 5 4467 [] 0 v0 none, .ptr 4468 [], .sc (.int .i64 v1), .ptr 4469 [], .sc (.int .i64 v2)] [(4464, .box false 37 (PV.ar 37 v3)), (4465, .box false 118 (PV.ar 118 v4)), (4466, .box false 112 (PV.ar 112 v5)), (4467, .vec false 5 false v6), (4468, .box false 118 (PV.ar 118 v7)), (4469, .box false 112 (PV.ar 112 v8))]) (Jt tau 0 ZR k) = VX f (fun x0 x1 x2 x3 x4 x5 x6 x7 => k (Ex.exit 10) (Jd ZR N28 [.ptr 4464 [], .ptr 4465 [], .ptr 4466 [], .ow 5 4467 [] 0 x0 none, .ptr 4468 [], .sc (.int .i64 x1), .ptr 4469 []] [(4464, .box false 37 (PV.ar 37 x2)), (4465, .box false 118 (PV.ar 118 x3)), (4466, .box false 112 (PV.ar 112 x4)), (4467, .vec false 5 false x5), (4468, .box false 118 (PV.ar 118 x6)), (4469, .box false 112 (PV.ar 112 x7))])) n v0 v1 v2 v3 v4 v5 v6 v7 v8 | 0, _, _, _, _, _, _, _, _, _ => rfl | n + 1, v0, v1, v2, v3, v4, v5, v6, v7, v8 => (Jq4 f k n v0 v1 v2 v3 v4 v5 v6 v7 v8).trans (congrArg (fun r => GS f r (fun x0 x1 x2 x3 x4 x5 x6 x7 => k (Ex.exit 10) (Jd ZR N28 [.ptr 4464 [], .ptr 4465 [], .ptr 4466 [], .ow 5 4467 [] 0 x0 none, .ptr 4468 [], .sc (.int .i64 x1), .ptr 4469 []] [(4464, .box false 37 (PV.ar 37 x2)), (4465, .box false 118 (PV.ar 118 x3)), (4466, .box false 112 (PV.ar 112 x4)), (4467, .vec false 5 false x5), (4468, .box false 118 (PV.ar 118 x6)), (4469, .box false 112 (PV.ar 112 x7))])) v0 v1 v2 v3 v4 v5 v6 v7 v8) (by funext v0 v1 v2 v3 v4 v5 v6 v7 v8; exact JkH f k n v0 v1 v2 v3 v4 v5 v6 v7 v8))
def Ja7 (f : Nat) : List PV -> List (Nat × Ent) -> Kont -> Option Res
 | [.ptr 4464 [], .ptr 4465 [], .ptr 4466 [], .ow 5 4467 [] 0 v0 none, .ptr 4468 [], .sc (.int .i64 v1), .ptr 4469 [],
 PV.sc
  (Value.int IntKind.i64
   v2)], [(4464, .box false 37 (PV.ar 37 v3)), (4465, .box false 118 (PV.ar 118 v4)), (4466, .box false 112 (PV.ar 112 v5)), (4467, .vec false 5 false v6),
 (4468, .box false 118 (PV.ar 118 v7)),
 (4469,
  Ent.box false 112
   (PV.ar 112
    v8))], k => VX f (fun x0 x1 x2 x3 x4 x5 x6 x7 => k (Ex.exit
 10) (Jd ZR N28 [.ptr 4464 [], .ptr 4465 [], .ptr 4466 [], .ow 5 4467 [] 0 x0 none, .ptr 4468 [], .sc (.int .i64 x1),
 PV.ptr 4469
  []] [(4464, .box false 37 (PV.ar 37 x2)), (4465, .box false 118 (PV.ar 118 x3)), (4466, .box false 112 (PV.ar 112 x4)), (4467, .vec false 5 false x5),
 (4468, .box false 118 (PV.ar 118 x6)), (4469, .box false 112 (PV.ar 112 x7))])) f v0 v1 v2 v3 v4 v5 v6 v7 v8
 | _, _, _ => none
theorem JwD (f : Nat) : Je JdO JgP = [] := by kernel_rfl
theorem JCr (f : Nat) : (Item.l JdO YL N28 (Ja7 f)).Ok tau Try.prog 0 := JI Jq YG Jr (x := JgP) (nm2 := ZR) (Js _ _ (by rw [JwD f]; intro q hq; cases hq)) fun vs hp k res hr => by
 unfold Ja7 at hr
 split at hr
 · exact ⟨f, 0, (JkH f _ f _ _ _ _ _ _ _ _ _ ).trans hr⟩
 · cases hr
def GT (f : Nat) (rc : Nat -> Int -> Int -> List PV -> List PV -> List PV -> List PV -> List PV -> List PV -> Option Res) (k0 : Nat -> Int -> List PV -> List PV -> List PV -> List PV -> List PV -> Option Res) (v0 : Nat) (v1 v2 : Int) (v3 v4 v5 v6 v7 v8 : List PV) : Option Res := bif decide (v2 < 8) then bif decide (0 <= v2) && decide (v2 < zi 8) && true then bif PV.isInt IntKind.u32 (Jm (PV.ar 112 v5) [v2.toNat]) && true then bif decide (0 <= v2) && decide (v2 < zi 8) && true then bif PV.isInt IntKind.u32 (Jm (PV.ar 112 v8) [v2.toNat]) && true then bif decide (0 <= v2) && decide (v2 < zi 8) && true then rc v0 v1 (IntKind.i64.wrap (v2 + 1)) v3 v4 (v5.set v2.toNat (.sc (.int .u32 (IntKind.u32.wrap ((Jm (PV.ar 112 v5) [v2.toNat]).int + (Jm (PV.ar 112 v8) [v2.toNat]).int))))) v6 v7 v8 else none else none else none else none else none else k0 v0 v1 v3 v4 v5 v6 v7
def VY (f : Nat) (k0 : Nat -> Int -> List PV -> List PV -> List PV -> List PV -> List PV -> Option Res) : Nat -> Nat -> Int -> Int -> List PV -> List PV -> List PV -> List PV -> List PV -> List PV -> Option Res
 | 0, _, _, _, _, _, _, _, _, _ => none
 | n + 1, v0, v1, v2, v3, v4, v5, v6, v7, v8 => GT f (VY f k0 n) k0 v0 v1 v2 v3 v4 v5 v6 v7 v8
theorem Jq5 (f : Nat) (k : Kont) (n v0 : Nat) (v1 v2 : Int) (v3 v4 v5 v6 v7 v8 : List PV) : Jn tau 0 YM (fun s k => ev tau F28 0 0 JdP (JgQ ) s k) (n + 1) (Jd YM N28 [.ptr 4464 [], .ptr 4465 [], .ptr 4466 [], .ow 5 4467 [] 0 v0 none, .ptr 4468 [], .sc (.int .i64 v1), .ptr 4469 [], .sc (.int .i64 v2)] [(4464, .box false 37 (PV.ar 37 v3)), (4465, .box false 118 (PV.ar 118 v4)), (4466, .box false 112 (PV.ar 112 v5)), (4467, .vec false 5 false v6), (4468, .box false 118 (PV.ar 118 v7)), (4469, .box false 112 (PV.ar 112 v8))]) (Jt tau 0 ZS k) = GT f (fun v0 v1 v2 v3 v4 v5 v6 v7 v8 => Jn tau 0 YM (fun s k => ev tau F28 0 0 JdP (JgQ ) s k) n (Jd YM N28 [.ptr 4464 [], .ptr 4465 [], .ptr 4466 [], .ow 5 4467 [] 0 v0 none, .ptr 4468 [], .sc (.int .i64 v1), .ptr 4469 [], .sc (.int .i64 v2)] [(4464, .box false 37 (PV.ar 37 v3)), (4465, .box false 118 (PV.ar 118 v4)), (4466, .box false 112 (PV.ar 112 v5)), (4467, .vec false 5 false v6), (4468, .box false 118 (PV.ar 118 v7)), (4469, .box false 112 (PV.ar 112 v8))]) (Jt tau 0 ZS k)) (fun x0 x1 x2 x3 x4 x5 x6 => k (Ex.exit 12) (Jd ZS N28 [.ptr 4464 [], .ptr 4465 [], .ptr 4466 [], .ow 5 4467 [] 0 x0 none, .ptr 4468 [], .sc (.int .i64 x1)] [(4464, .box false 37 (PV.ar 37 x2)), (4465, .box false 118 (PV.ar 118 x3)), (4466, .box false 112 (PV.ar 112 x4)), (4467, .vec false 5 false x5), (4468, .box false 118 (PV.ar 118 x6))])) v0 v1 v2 v3 v4 v5 v6 v7 v8 := by kernel_rfl
theorem JkI (f : Nat) (k : Kont) : ∀ (n v0 : Nat) (v1 v2 : Int) (v3 v4 v5 v6 v7 v8 : List PV), Jn tau 0 YM (fun s k => ev tau F28 0 0 JdP (JgQ ) s k) n (Jd YM N28 [.ptr 4464 [], .ptr 4465 [], .ptr 4466 [], .ow 5 4467 [] 0 v0 none, .ptr 4468 [], .sc (.int .i64 v1), .ptr 4469 [], .sc (.int .i64 v2)] [(4464, .box false 37 (PV.ar 37 v3)), (4465, .box false 118 (PV.ar 118 v4)), (4466, .box false 112 (PV.ar 112 v5)), (4467, .vec false 5 false v6), (4468, .box false 118 (PV.ar 118 v7)), (4469, .box false 112 (PV.ar 112 v8))]) (Jt tau 0 ZS k) = VY f (fun x0 x1 x2 x3 x4 x5 x6 => k (Ex.exit 12) (Jd ZS N28 [.ptr 4464 [], .ptr 4465 [], .ptr 4466 [], .ow 5 4467 [] 0 x0 none, .ptr 4468 [], .sc (.int .i64 x1)] [(4464, .box false 37 (PV.ar 37 x2)), (4465, .box false 118 (PV.ar 118 x3)), (4466, .box false 112 (PV.ar 112 x4)), (4467, .vec false 5 false x5), (4468, .box false 118 (PV.ar 118 x6))])) n v0 v1 v2 v3 v4 v5 v6 v7 v8 | 0, _, _, _, _, _, _, _, _, _ => rfl | n + 1, v0, v1, v2, v3, v4, v5, v6, v7, v8 => (Jq5 f k n v0 v1 v2 v3 v4 v5 v6 v7 v8).trans (congrArg (fun r => GT f r (fun x0 x1 x2 x3 x4 x5 x6 => k (Ex.exit 12) (Jd ZS N28 [.ptr 4464 [], .ptr 4465 [], .ptr 4466 [], .ow 5 4467 [] 0 x0 none, .ptr 4468 [], .sc (.int .i64 x1)] [(4464, .box false 37 (PV.ar 37 x2)), (4465, .box false 118 (PV.ar 118 x3)), (4466, .box false 112 (PV.ar 112 x4)), (4467, .vec false 5 false x5), (4468, .box false 118 (PV.ar 118 x6))])) v0 v1 v2 v3 v4 v5 v6 v7 v8) (by funext v0 v1 v2 v3 v4 v5 v6 v7 v8; exact JkI f k n v0 v1 v2 v3 v4 v5 v6 v7 v8))
def Ja8 (f : Nat) : List PV -> List (Nat × Ent) -> Kont -> Option Res
 | [.ptr 4464 [], .ptr 4465 [], .ptr 4466 [], .ow 5 4467 [] 0 v0 none, .ptr 4468 [], .sc (.int .i64 v1), .ptr 4469 [],
 PV.sc
  (Value.int IntKind.i64
   v2)], [(4464, .box false 37 (PV.ar 37 v3)), (4465, .box false 118 (PV.ar 118 v4)), (4466, .box false 112 (PV.ar 112 v5)), (4467, .vec false 5 false v6),
 (4468, .box false 118 (PV.ar 118 v7)),
 (4469,
  Ent.box false 112
   (PV.ar 112
    v8))], k => VY f (fun x0 x1 x2 x3 x4 x5 x6 => k (Ex.exit
 12) (Jd ZS N28 [.ptr 4464 [], .ptr 4465 [], .ptr 4466 [], .ow 5 4467 [] 0 x0 none, .ptr 4468 [],
 PV.sc
  (Value.int IntKind.i64
   x1)] [(4464, .box false 37 (PV.ar 37 x2)), (4465, .box false 118 (PV.ar 118 x3)), (4466, .box false 112 (PV.ar 112 x4)), (4467, .vec false 5 false x5),
 (4468, .box false 118 (PV.ar 118 x6))])) f v0 v1 v2 v3 v4 v5 v6 v7 v8
 | _, _, _ => none
theorem JwE (f : Nat) : Je JdP JgQ = [] := by kernel_rfl
theorem JCs (f : Nat) : (Item.l JdP YM N28 (Ja8 f)).Ok tau Try.prog 0 := JI Jq YG Jr (x := JgQ) (nm2 := ZS) (Js _ _ (by rw [JwE f]; intro q hq; cases hq)) fun vs hp k res hr => by
 unfold Ja8 at hr
 split at hr
 · exact ⟨f, 0, (JkI f _ f _ _ _ _ _ _ _ _ _ ).trans hr⟩
 · cases hr
def GU (f : Nat) (rc : Nat -> Int -> List PV -> List PV -> List PV -> List PV -> List PV -> Option Res) (k0 : List PV -> List PV -> Option Res) (v0 : Nat) (v1 : Int) (v2 v3 v4 v5 v6 : List PV) : Option Res := bif decide (v1 < zi v0) then VV f (fun x0_2 x1_2 x2_2 x3_2 x4_2 x5_2 x6_2 => VW f (fun x0_3 x1_3 x2_3 x3_3 x4_3 x5_3 x6_3 => VX f (fun x0_4 x1_4 x2_4 x3_4 x4_4 x5_4 x6_4 x7_4 => VY f (fun x0_5 x1_5 x2_5 x3_5 x4_5 x5_5 x6_5 => rc x0_5 (IntKind.i64.wrap (x1_5 + 64)) x2_5 x3_5 x4_5 x5_5 x6_5) f x0_4 x1_4 (0) x2_4 x3_4 x4_4 x5_4 x6_4 x7_4) f x0_3 x1_3 (0) x2_3 x3_3 x4_3 x5_3 x6_3 x4_3) f x0_2 x1_2 (16) x2_2 x3_2 x4_2 x5_2 x6_2) f v0 v1 (0) v2 v3 v4 v5 v6 else k0 v2 v4
def VZ (f : Nat) (k0 : List PV -> List PV -> Option Res) : Nat -> Nat -> Int -> List PV -> List PV -> List PV -> List PV -> List PV -> Option Res
 | 0, _, _, _, _, _, _, _ => none
 | n + 1, v0, v1, v2, v3, v4, v5, v6 => GU f (VZ f k0 n) k0 v0 v1 v2 v3 v4 v5 v6
theorem Jq6 (f : Nat) (k : Kont) (n v0 : Nat) (v1 : Int) (v2 v3 v4 v5 v6 : List PV) : Jn tau 0 YN (fun s k => ev tau F28 0 0 JdQ (JgR (Ja5 f) (Ja6 f) (Ja7 f) (Ja8 f)) s k) (n + 1) (Jd YN N28 [.ptr 4464 [], .ptr 4465 [], .ptr 4466 [], .ow 5 4467 [] 0 v0 none, .ptr 4468 [], .sc (.int .i64 v1)] [(4464, .box false 37 (PV.ar 37 v2)), (4465, .box false 118 (PV.ar 118 v3)), (4466, .box false 112 (PV.ar 112 v4)), (4467, .vec false 5 false v5), (4468, .box false 118 (PV.ar 118 v6))]) (Jt tau 0 ZT k) = GU f (fun v0 v1 v2 v3 v4 v5 v6 => Jn tau 0 YN (fun s k => ev tau F28 0 0 JdQ (JgR (Ja5 f) (Ja6 f) (Ja7 f) (Ja8 f)) s k) n (Jd YN N28 [.ptr 4464 [], .ptr 4465 [], .ptr 4466 [], .ow 5 4467 [] 0 v0 none, .ptr 4468 [], .sc (.int .i64 v1)] [(4464, .box false 37 (PV.ar 37 v2)), (4465, .box false 118 (PV.ar 118 v3)), (4466, .box false 112 (PV.ar 112 v4)), (4467, .vec false 5 false v5), (4468, .box false 118 (PV.ar 118 v6))]) (Jt tau 0 ZT k)) (fun x0 x1 => k (Ex.exit 4) (Jd ZT N28 [.ptr 4464 [], .ptr 4465 []] [(4464, .box false 37 (PV.ar 37 x0)), (4465, .box false 112 (PV.ar 112 x1))])) v0 v1 v2 v3 v4 v5 v6 := by kernel_rfl
theorem JkJ (f : Nat) (k : Kont) : ∀ (n v0 : Nat) (v1 : Int) (v2 v3 v4 v5 v6 : List PV), Jn tau 0 YN (fun s k => ev tau F28 0 0 JdQ (JgR (Ja5 f) (Ja6 f) (Ja7 f) (Ja8 f)) s k) n (Jd YN N28 [.ptr 4464 [], .ptr 4465 [], .ptr 4466 [], .ow 5 4467 [] 0 v0 none, .ptr 4468 [], .sc (.int .i64 v1)] [(4464, .box false 37 (PV.ar 37 v2)), (4465, .box false 118 (PV.ar 118 v3)), (4466, .box false 112 (PV.ar 112 v4)), (4467, .vec false 5 false v5), (4468, .box false 118 (PV.ar 118 v6))]) (Jt tau 0 ZT k) = VZ f (fun x0 x1 => k (Ex.exit 4) (Jd ZT N28 [.ptr 4464 [], .ptr 4465 []] [(4464, .box false 37 (PV.ar 37 x0)), (4465, .box false 112 (PV.ar 112 x1))])) n v0 v1 v2 v3 v4 v5 v6 | 0, _, _, _, _, _, _, _ => rfl | n + 1, v0, v1, v2, v3, v4, v5, v6 => (Jq6 f k n v0 v1 v2 v3 v4 v5 v6).trans (congrArg (fun r => GU f r (fun x0 x1 => k (Ex.exit 4) (Jd ZT N28 [.ptr 4464 [], .ptr 4465 []] [(4464, .box false 37 (PV.ar 37 x0)), (4465, .box false 112 (PV.ar 112 x1))])) v0 v1 v2 v3 v4 v5 v6) (by funext v0 v1 v2 v3 v4 v5 v6; exact JkJ f k n v0 v1 v2 v3 v4 v5 v6))
def Jcw (f : Nat) : List PV -> List (Nat × Ent) -> Kont -> Option Res
 | [.ptr 4464 [], .ptr 4465 [], .ptr 4466 [], .ow 5 4467 [] 0 v0 none, .ptr 4468 [],
 PV.sc
  (Value.int IntKind.i64
   v1)], [(4464, .box false 37 (PV.ar 37 v2)), (4465, .box false 118 (PV.ar 118 v3)), (4466, .box false 112 (PV.ar 112 v4)), (4467, .vec false 5 false v5),
 (4468,
  Ent.box false 118
   (PV.ar 118
    v6))], k => VZ f (fun x0 x1 => k (Ex.exit
 4) (Jd ZT N28 [.ptr 4464 [], .ptr 4465 []] [(4464, .box false 37 (PV.ar 37 x0)), (4465, .box false 112 (PV.ar 112 x1))])) f v0 v1 v2 v3 v4 v5 v6
 | _, _, _ => none
theorem JwF (f : Nat) : Je JdQ (JgR (Ja5 f) (Ja6 f) (Ja7 f) (Ja8 f)) = [.l JdM YJ N28 (Ja5 f), .l JdN YK N28 (Ja6 f), .l JdO YL N28 (Ja7 f), .l JdP YM N28 (Ja8 f)] := by kernel_rfl
theorem JCt (f : Nat) : (Item.l JdQ YN N28 (Jcw f)).Ok tau Try.prog 0 := JI Jq YG Jr (x := (JgR (Ja5 f) (Ja6 f) (Ja7 f) (Ja8 f))) (nm2 := ZT) (Js _ _ (by rw [JwF f]; simp only [List.forall_mem_cons, List.not_mem_nil, false_implies, implies_true, and_true]; exact ⟨JCp f, JCq f, JCr f, JCs f⟩)) fun vs hp k res hr => by
 unfold Jcw at hr
 split at hr
 · exact ⟨f, 0, (JkJ f _ f _ _ _ _ _ _ _ ).trans hr⟩
 · cases hr
def GV (f : Nat) (rc : Int -> List PV -> List PV -> List PV -> Option Res) (k0 : List PV -> List PV -> Option Res) (v0 : Int) (v1 v2 v3 : List PV) : Option Res := bif decide (v0 < 8) then bif decide (0 <= v0) && decide (v0 < zi 8) && true then bif PV.isInt IntKind.u32 (Jm (PV.ar 112 v2) [v0.toNat]) && true then bif decide (0 <= v0) && decide (v0 < zi 8) && true then bif PV.isInt IntKind.u32 (Jm (PV.ar 112 v2) [v0.toNat]) && true then bif decide (0 <= v0) && decide (v0 < zi 8) && true then bif PV.isInt IntKind.u32 (Jm (PV.ar 112 v2) [v0.toNat]) && true then bif decide (0 <= v0) && decide (v0 < zi 8) && true then bif PV.isInt IntKind.u32 (Jm (PV.ar 112 v2) [v0.toNat]) && true then bif decide (0 <= IntKind.i64.wrap (4 * v0)) && decide (IntKind.i64.wrap (4 * v0) < zi 32) && true then bif decide (0 <= IntKind.i64.wrap (IntKind.i64.wrap (4 * v0) + 1)) && decide (IntKind.i64.wrap (IntKind.i64.wrap (4 * v0) + 1) < zi 32) && true then bif decide (0 <= IntKind.i64.wrap (IntKind.i64.wrap (4 * v0) + 2)) && decide (IntKind.i64.wrap (IntKind.i64.wrap (4 * v0) + 2) < zi 32) && true then bif decide (0 <= IntKind.i64.wrap (IntKind.i64.wrap (4 * v0) + 3)) && decide (IntKind.i64.wrap (IntKind.i64.wrap (4 * v0) + 3) < zi 32) && true then rc (IntKind.i64.wrap (v0 + 1)) v1 v2 ((((v3.set (IntKind.i64.wrap (4 * v0)).toNat (.sc (.int .u8 (IntKind.u8.wrap (JD IntKind.u32 (Jm (PV.ar 112 v2) [v0.toNat]).int 24))))).set (IntKind.i64.wrap (IntKind.i64.wrap (4 * v0) + 1)).toNat (.sc (.int .u8 (IntKind.u8.wrap (JD IntKind.u32 (Jm (PV.ar 112 v2) [v0.toNat]).int 16))))).set (IntKind.i64.wrap (IntKind.i64.wrap (4 * v0) + 2)).toNat (.sc (.int .u8 (IntKind.u8.wrap (JD IntKind.u32 (Jm (PV.ar 112 v2) [v0.toNat]).int 8))))).set (IntKind.i64.wrap (IntKind.i64.wrap (4 * v0) + 3)).toNat (.sc (.int .u8 (IntKind.u8.wrap (Jm (PV.ar 112 v2) [v0.toNat]).int)))) else none else none else none else none else none else none else none else none else none else none else none else none else k0 v1 v3
def V0 (f : Nat) (k0 : List PV -> List PV -> Option Res) : Nat -> Int -> List PV -> List PV -> List PV -> Option Res
 | 0, _, _, _, _ => none
 | n + 1, v0, v1, v2, v3 => GV f (V0 f k0 n) k0 v0 v1 v2 v3
theorem Jq7 (f : Nat) (k : Kont) (n : Nat) (v0 : Int) (v1 v2 v3 : List PV) : Jn tau 0 YO (fun s k => ev tau F28 0 0 JdR (JgS ) s k) (n + 1) (Jd YO N28 [.ptr 4464 [], .ptr 4465 [], .ptr 4466 [], .sc (.int .i64 v0)] [(4464, .box false 37 (PV.ar 37 v1)), (4465, .box false 112 (PV.ar 112 v2)), (4466, .box false 37 (PV.ar 37 v3))]) (Jt tau 0 ZU k) = GV f (fun v0 v1 v2 v3 => Jn tau 0 YO (fun s k => ev tau F28 0 0 JdR (JgS ) s k) n (Jd YO N28 [.ptr 4464 [], .ptr 4465 [], .ptr 4466 [], .sc (.int .i64 v0)] [(4464, .box false 37 (PV.ar 37 v1)), (4465, .box false 112 (PV.ar 112 v2)), (4466, .box false 37 (PV.ar 37 v3))]) (Jt tau 0 ZU k)) (fun x0 x1 => k (Ex.exit 14) (Jd ZU N28 [.ptr 4464 [], .ptr 4465 []] [(4464, .box false 37 (PV.ar 37 x0)), (4465, .box false 37 (PV.ar 37 x1))])) v0 v1 v2 v3 := by kernel_rfl
theorem JkK (f : Nat) (k : Kont) : ∀ (n : Nat) (v0 : Int) (v1 v2 v3 : List PV), Jn tau 0 YO (fun s k => ev tau F28 0 0 JdR (JgS ) s k) n (Jd YO N28 [.ptr 4464 [], .ptr 4465 [], .ptr 4466 [], .sc (.int .i64 v0)] [(4464, .box false 37 (PV.ar 37 v1)), (4465, .box false 112 (PV.ar 112 v2)), (4466, .box false 37 (PV.ar 37 v3))]) (Jt tau 0 ZU k) = V0 f (fun x0 x1 => k (Ex.exit 14) (Jd ZU N28 [.ptr 4464 [], .ptr 4465 []] [(4464, .box false 37 (PV.ar 37 x0)), (4465, .box false 37 (PV.ar 37 x1))])) n v0 v1 v2 v3 | 0, _, _, _, _ => rfl | n + 1, v0, v1, v2, v3 => (Jq7 f k n v0 v1 v2 v3).trans (congrArg (fun r => GV f r (fun x0 x1 => k (Ex.exit 14) (Jd ZU N28 [.ptr 4464 [], .ptr 4465 []] [(4464, .box false 37 (PV.ar 37 x0)), (4465, .box false 37 (PV.ar 37 x1))])) v0 v1 v2 v3) (by funext v0 v1 v2 v3; exact JkK f k n v0 v1 v2 v3))
def Jcx (f : Nat) : List PV -> List (Nat × Ent) -> Kont -> Option Res
 | [.ptr 4464 [], .ptr 4465 [], .ptr 4466 [],
 PV.sc
  (Value.int IntKind.i64
   v0)], [(4464, .box false 37 (PV.ar 37 v1)), (4465, .box false 112 (PV.ar 112 v2)),
 (4466,
  Ent.box false 37
   (PV.ar 37
    v3))], k => V0 f (fun x0 x1 => k (Ex.exit
 14) (Jd ZU N28 [.ptr 4464 [], .ptr 4465 []] [(4464, .box false 37 (PV.ar 37 x0)), (4465, .box false 37 (PV.ar 37 x1))])) f v0 v1 v2 v3
 | _, _, _ => none
theorem JwG (f : Nat) : Je JdR JgS = [] := by kernel_rfl
theorem JCu (f : Nat) : (Item.l JdR YO N28 (Jcx f)).Ok tau Try.prog 0 := JI Jq YG Jr (x := JgS) (nm2 := ZU) (Js _ _ (by rw [JwG f]; intro q hq; cases hq)) fun vs hp k res hr => by
 unfold Jcx at hr
 split at hr
 · exact ⟨f, 0, (JkK f _ f _ _ _ _ ).trans hr⟩
 · cases hr
def g28 (f : Nat) (nl fl : Bool) (b : List PV) (k : Res -> Option Res) : Option Res := bif Jl (0 + b.length) 1 && true then bif Jl (0 + b.length + 1) 1 && true then VT f (fun x0_0 x1_0 x2_0 x3_0 x4_0 x5_0 x6_0 x7_0 => VU f (fun x0_1 x1_1 x2_1 x3_1 x4_1 => VZ f (fun x0_6 x1_6 => V0 f (fun x0_7 x1_7 => k (Res.mk (.ar 37 x1_7) [] [])) f (0) x0_6 x1_6 ([.sc (.int .u8 0), .sc (.int .u8 0), .sc (.int .u8 0), .sc (.int .u8 0), .sc (.int .u8 0), .sc (.int .u8 0), .sc (.int .u8 0), .sc (.int .u8 0), .sc (.int .u8 0), .sc (.int .u8 0), .sc (.int .u8 0), .sc (.int .u8 0), .sc (.int .u8 0), .sc (.int .u8 0), .sc (.int .u8 0), .sc (.int .u8 0), .sc (.int .u8 0), .sc (.int .u8 0), .sc (.int .u8 0), .sc (.int .u8 0), .sc (.int .u8 0), .sc (.int .u8 0), .sc (.int .u8 0), .sc (.int .u8 0), .sc (.int .u8 0), .sc (.int .u8 0), .sc (.int .u8 0), .sc (.int .u8 0), .sc (.int .u8 0), .sc (.int .u8 0), .sc (.int .u8 0), .sc (.int .u8 0)])) f x0_1 (0) x1_1 x2_1 x3_1 x4_1 ([.sc (.int .u32 0), .sc (.int .u32 0), .sc (.int .u32 0), .sc (.int .u32 0), .sc (.int .u32 0), .sc (.int .u32 0), .sc (.int .u32 0), .sc (.int .u32 0), .sc (.int .u32 0), .sc (.int .u32 0), .sc (.int .u32 0), .sc (.int .u32 0), .sc (.int .u32 0), .sc (.int .u32 0), .sc (.int .u32 0), .sc (.int .u32 0), .sc (.int .u32 0), .sc (.int .u32 0), .sc (.int .u32 0), .sc (.int .u32 0), .sc (.int .u32 0), .sc (.int .u32 0), .sc (.int .u32 0), .sc (.int .u32 0), .sc (.int .u32 0), .sc (.int .u32 0), .sc (.int .u32 0), .sc (.int .u32 0), .sc (.int .u32 0), .sc (.int .u32 0), .sc (.int .u32 0), .sc (.int .u32 0), .sc (.int .u32 0), .sc (.int .u32 0), .sc (.int .u32 0), .sc (.int .u32 0), .sc (.int .u32 0), .sc (.int .u32 0), .sc (.int .u32 0), .sc (.int .u32 0), .sc (.int .u32 0), .sc (.int .u32 0), .sc (.int .u32 0), .sc (.int .u32 0), .sc (.int .u32 0), .sc (.int .u32 0), .sc (.int .u32 0), .sc (.int .u32 0), .sc (.int .u32 0), .sc (.int .u32 0), .sc (.int .u32 0), .sc (.int .u32 0), .sc (.int .u32 0), .sc (.int .u32 0), .sc (.int .u32 0), .sc (.int .u32 0), .sc (.int .u32 0), .sc (.int .u32 0), .sc (.int .u32 0), .sc (.int .u32 0), .sc (.int .u32 0), .sc (.int .u32 0), .sc (.int .u32 0), .sc (.int .u32 0)])) f x3_0 (IntKind.u64.wrap (IntKind.u64.wrap (zi x2_0.length) * 8)) (7) x4_0 x5_0 x6_0 x7_0) f nl fl b (0 + b.length + 1) ([.sc (.int .u8 0), .sc (.int .u8 0), .sc (.int .u8 0), .sc (.int .u8 0), .sc (.int .u8 0), .sc (.int .u8 0), .sc (.int .u8 0), .sc (.int .u8 0), .sc (.int .u8 0), .sc (.int .u8 0), .sc (.int .u8 0), .sc (.int .u8 0), .sc (.int .u8 0), .sc (.int .u8 0), .sc (.int .u8 0), .sc (.int .u8 0), .sc (.int .u8 0), .sc (.int .u8 0), .sc (.int .u8 0), .sc (.int .u8 0), .sc (.int .u8 0), .sc (.int .u8 0), .sc (.int .u8 0), .sc (.int .u8 0), .sc (.int .u8 0), .sc (.int .u8 0), .sc (.int .u8 0), .sc (.int .u8 0), .sc (.int .u8 0), .sc (.int .u8 0), .sc (.int .u8 0), .sc (.int .u8 0)]) ([.sc (.int .u32 1116352408), .sc (.int .u32 1899447441), .sc (.int .u32 3049323471), .sc (.int .u32 3921009573), .sc (.int .u32 961987163), .sc (.int .u32 1508970993), .sc (.int .u32 2453635748), .sc (.int .u32 2870763221), .sc (.int .u32 3624381080), .sc (.int .u32 310598401), .sc (.int .u32 607225278), .sc (.int .u32 1426881987), .sc (.int .u32 1925078388), .sc (.int .u32 2162078206), .sc (.int .u32 2614888103), .sc (.int .u32 3248222580), .sc (.int .u32 3835390401), .sc (.int .u32 4022224774), .sc (.int .u32 264347078), .sc (.int .u32 604807628), .sc (.int .u32 770255983), .sc (.int .u32 1249150122), .sc (.int .u32 1555081692), .sc (.int .u32 1996064986), .sc (.int .u32 2554220882), .sc (.int .u32 2821834349), .sc (.int .u32 2952996808), .sc (.int .u32 3210313671), .sc (.int .u32 3336571891), .sc (.int .u32 3584528711), .sc (.int .u32 113926993), .sc (.int .u32 338241895), .sc (.int .u32 666307205), .sc (.int .u32 773529912), .sc (.int .u32 1294757372), .sc (.int .u32 1396182291), .sc (.int .u32 1695183700), .sc (.int .u32 1986661051), .sc (.int .u32 2177026350), .sc (.int .u32 2456956037), .sc (.int .u32 2730485921), .sc (.int .u32 2820302411), .sc (.int .u32 3259730800), .sc (.int .u32 3345764771), .sc (.int .u32 3516065817), .sc (.int .u32 3600352804), .sc (.int .u32 4094571909), .sc (.int .u32 275423344), .sc (.int .u32 430227734), .sc (.int .u32 506948616), .sc (.int .u32 659060556), .sc (.int .u32 883997877), .sc (.int .u32 958139571), .sc (.int .u32 1322822218), .sc (.int .u32 1537002063), .sc (.int .u32 1747873779), .sc (.int .u32 1955562222), .sc (.int .u32 2024104815), .sc (.int .u32 2227730452), .sc (.int .u32 2361852424), .sc (.int .u32 2428436474), .sc (.int .u32 2756734187), .sc (.int .u32 3204031479), .sc (.int .u32 3329325298)]) ([.sc (.int .u32 1779033703), .sc (.int .u32 3144134277), .sc (.int .u32 1013904242), .sc (.int .u32 2773480762), .sc (.int .u32 1359893119), .sc (.int .u32 2600822924), .sc (.int .u32 528734635), .sc (.int .u32 1541459225)]) (List.take (0 + b.length) ([] ++ b) ++ [.sc (.int .u8 128)]) else none else none
theorem e28 (f : Nat) (nl fl : Bool) (b : List PV) (k : Res -> Option Res) : JN tau F28 Try.f28 (Try.f28.body.get!) (JqZ (Jcu f) (Jcv f) (Jcw f) (Jcx f)) [] 0 [.ro 5 nl fl b] [] k = g28 f nl fl b k := by kernel_rfl
theorem JFY (f : Nat) : Je (Try.f28.body.get!) (JqZ (Jcu f) (Jcv f) (Jcw f) (Jcx f)) = [.l JdK YH N28 (Jcu f), .l JdL YI N28 (Jcv f), .l JdQ YN N28 (Jcw f), .l JdR YO N28 (Jcx f)] := by kernel_rfl
theorem JFZ (f : Nat) : ∀ q ∈ Je (Try.f28.body.get!) (JqZ (Jcu f) (Jcv f) (Jcw f) (Jcx f)), q.Ok tau Try.prog 0 := by
 rw [JFY f]; simp only [List.forall_mem_cons, List.not_mem_nil, false_implies, implies_true, and_true]; exact ⟨JCn f, JCo f, JCt f, JCu f⟩
theorem JCv : Try.prog.funcs[28]? = some Try.f28 := by kernel_rfl
theorem JCw : Try.f28.body = some (Try.f28.body.get!) := by kernel_rfl
theorem JF0 : Enters Try.prog 28 := enters_of JCv (by kernel_rfl) JCw
-- FN ref2.Sum
theorem Jn0 (v : PV) : Jm v [] = v := rfl
theorem Xn {R : List Int} (h : R.length = 8) (j : Nat) (hj : j < 8) : (pu .u32 R).getD j .top = .sc (.int .u32 (R.getD j 0)) := Zc (by omega)
theorem JtO (f : Nat) (a b : Bool) (c x y w : List PV) (k0 : Bool -> Bool -> List PV -> Nat -> List PV -> List PV -> List PV -> List PV -> Option Res) : ∀ (d n : Nat) (L : List Int), zs L.length = d -> d < n -> L.length + d <= 140737488355200 ->
  VT f k0 n a b c L.length x y w (pu .u8 L) = k0 a b c (L.length + d) x y w (pu .u8 (L ++ List.replicate d 0))
 | 0, n + 1, L, hd, hn, hL => by
   simp only [VT, GN, Jb7]
   refine (Jv (by simp [zs] at hd ⊢; omega)).trans ?_
   simp
 | d + 1, n + 1, L, hd, hn, hL => by
   have hlt : d + 1 < 64 := by rw [← hd]; unfold zs; omega
   have c3 : Jl (L.length + 1) 1 = true := by simp [Jl]; omega
   simp only [VT, GN, Jb7, c3, Bool.and_true, cond_true, Xt]
   refine (Jb (by simp [zs] at hd ⊢; omega)).trans ?_
   rw [List.take_of_length_le (Nat.le_refl _)]
   have := JtO f a b c x y w k0 d n (L ++ [0]) (by simp [zs] at hd ⊢; omega) (by omega) (by simp; omega)
   simp only [List.length_append, List.length_cons, List.length_nil, Nat.zero_add, JU] at this
   refine this.trans ?_
   rw [show L.length + 1 + d = L.length + (d + 1) from by omega, List.replicate_succ]
   simp
def Jq8 (N : Int) (i : Nat) : Int := IntKind.u8.wrap (JD .u64 N (56 - 8 * (i : Int)))
theorem JtP (f : Nat) (N : Int) (x y w : List PV) (k0 : Nat -> List PV -> List PV -> List PV -> List PV -> Option Res) (L : List Int) (hL : L.length <= 140737488355300) : ∀ (d i n : Nat), i + d = 8 -> d < n ->
  VU f k0 n (L.length + i) N (7 - (i : Int)) x y w (pu .u8 (L ++ (List.range i).map (Jq8 N))) = k0 (L.length + 8) x y w (pu .u8 (L ++ (List.range 8).map (Jq8 N)))
 | 0, i, n + 1, h, hn => by
   obtain rfl : i = 8 := by omega
   simp only [VU, GP]
   exact Jv (by decide)
 | d + 1, i, n + 1, h, hn => by
   have h1 : IntKind.i64.wrap (7 - (i : Int) - 1) = 7 - ((i + 1 : Nat) : Int) := by rw [wrap_i64 (by omega) (by omega)]; omega
   have h8 : IntKind.u64.wrap (7 - (i : Int)) = 7 - (i : Int) := by rw [Qy]; omega
   have h9 : IntKind.u64.wrap (8 * (7 - (i : Int))) = 56 - 8 * (i : Int) := by rw [Qy]; omega
   have c1 : decide (7 - (i : Int) >= 0) = true := by simp; omega
   have c2 : decide (0 <= 56 - 8 * (i : Int)) = true := by simp; omega
   have c3 : Jl (L.length + i + 1) 1 = true := by simp [Jl]; omega
   have hlen : (L ++ (List.range i).map (Jq8 N)).length = L.length + i := by simp
   simp only [VU, GP, h1, h8, h9, c1, c2, c3, Bool.and_true, cond_true, Xt]
   rw [List.take_of_length_le (by omega)]
   have := JtP f N x y w k0 L hL d (i + 1) n (by omega) (by omega)
   rw [List.range_succ, List.map_append, ← List.append_assoc, JU] at this
   exact this
theorem Jbs (P : List Int) (q j : Nat) (hj : j < 64) : ((P.drop (64 * q)).take 64).getD j 0 = P.getD (64 * q + j) 0 := by
 simp [List.getD_eq_getElem?_getD, hj, List.getElem?_drop]
theorem JtQ (P : List Int) (q : Nat) (hq : 64 * q + 64 <= P.length) (hP : P.length <= 140737488356000) (T : List Int) (hT : T.length = 64) (f : Nat) (x y w : List PV) (k0 : Nat -> Int -> List PV -> List PV -> List PV -> List PV -> List PV -> Option Res) : ∀ (d i n : Nat), i + d = 16 -> d < n ->
  VV f k0 n P.length ((64 * q : Nat) : Int) (i : Int) x y w (pu .u8 P) (pu .u32 (QB (JcQ ((P.drop (64 * q)).take 64)) T i)) = k0 P.length ((64 * q : Nat) : Int) x y w (pu .u8 P) (pu .u32 (QB (JcQ ((P.drop (64 * q)).take 64)) T 16))
 | 0, i, n + 1, h, hn => by
   obtain rfl : i = 16 := by omega
   simp only [VV, GQ]
   exact Jv (by decide)
 | d + 1, i, n + 1, h, hn => by
   have h4 : IntKind.i64.wrap (4 * (i : Int)) = ((4 * i : Nat) : Int) := by rw [wrap_i64 (by omega) (by omega)]; omega
   have h40 : IntKind.i64.wrap (((64 * q : Nat) : Int) + ((4 * i : Nat) : Int)) = ((64 * q + 4 * i : Nat) : Int) := by rw [wrap_i64 (by omega) (by omega)]; omega
   have h41 : IntKind.i64.wrap (((64 * q + 4 * i : Nat) : Int) + 1) = ((64 * q + (4 * i + 1) : Nat) : Int) := by rw [wrap_i64 (by omega) (by omega)]; omega
   have h42 : IntKind.i64.wrap (((64 * q + 4 * i : Nat) : Int) + 2) = ((64 * q + (4 * i + 2) : Nat) : Int) := by rw [wrap_i64 (by omega) (by omega)]; omega
   have h43 : IntKind.i64.wrap (((64 * q + 4 * i : Nat) : Int) + 3) = ((64 * q + (4 * i + 3) : Nat) : Int) := by rw [wrap_i64 (by omega) (by omega)]; omega
   have h5 : IntKind.i64.wrap ((i : Int) + 1) = ((i + 1 : Nat) : Int) := by rw [wrap_i64 (by omega) (by omega)]; omega
   simp only [VV, GQ, h4, h40, h41, h42, h43, h5, Int.toNat_natCast, Nat.zero_add, Jn0, zi]
   rw [JW (by omega), JW (by omega), JW (by omega), JW (by omega), Qr (by omega), Qr (by omega), Qr (by omega), Qr (by omega), Ws]
   refine (Jb (by simp; omega)).trans ?_
   refine (Jb (by simp only [Bool.and_true, Bool.and_eq_true, decide_eq_true_eq]; omega)).trans ?_
   refine (Jb rfl).trans ?_
   refine (Jb (by simp only [Bool.and_true, Bool.and_eq_true, decide_eq_true_eq]; omega)).trans ?_
   refine (Jb rfl).trans ?_
   refine (Jb (by simp only [Bool.and_true, Bool.and_eq_true, decide_eq_true_eq]; omega)).trans ?_
   refine (Jb rfl).trans ?_
   refine (Jb (by simp only [Bool.and_true, Bool.and_eq_true, decide_eq_true_eq]; omega)).trans ?_
   refine (Jb rfl).trans ?_
   refine (Jb (by simp only [Bool.and_true, Bool.and_eq_true, decide_eq_true_eq]; omega)).trans ?_
   have := JtQ P q hq hP T hT f x y w k0 d (i + 1) n (by omega) (by omega)
   rw [← Qw _ T i (by omega), JcQ, Jbs P q _ (by omega), Jbs P q _ (by omega), Jbs P q _ (by omega), Jbs P q _ (by omega)] at this
   exact this
def Vs (bs T : List Int) (i : Nat) : List Int := Qs bs i ++ T.drop (16 + i)
theorem Jfm (bs T : List Int) (hT : T.length = 64) (i : Nat) (h : i <= 48) : (Vs bs T i).length = 64 := by simp [Vs, JX, hT]; omega
theorem Vf (bs T : List Int) (i j : Nat) (h : j < 16 + i) : (Vs bs T i).getD j 0 = (Qs bs i).getD j 0 := by
 simp only [Vs, List.getD_eq_getElem?_getD]
 rw [List.getElem?_append_left (by rw [JX]; exact h)]
theorem Jlz (bs T : List Int) (hT : T.length = 64) (i : Nat) (h : i < 48) (x : Int) : (Vs bs T i).set (i + 16) x = (Qs bs i ++ [x]) ++ T.drop (16 + (i + 1)) := by
 rw [Vs, List.set_append_right _ _ (by rw [JX]; omega), JX, List.drop_eq_getElem_cons (by omega), show i + 16 - (16 + i) = 0 from by omega, List.set_cons_zero]
 simp [Nat.add_assoc]
theorem Jq9 (w16 w15 w7 w2 : Int) : ww (ww (ww (sg1 w2 + w7) + sg0 w15) + w16) = Jpp w16 w15 w7 w2 := by
 simp only [Jpp, ww, Jf1]; omega
theorem JtR (bs T : List Int) (hT : T.length = 64) (f : Nat) (l : Nat) (p : Int) (x y w e : List PV) (k0 : Nat -> Int -> List PV -> List PV -> List PV -> List PV -> List PV -> Option Res) : ∀ (d i n : Nat), i + d = 48 -> d < n ->
  VW f k0 n l p ((i + 16 : Nat) : Int) x y w e (pu .u32 (Vs bs T i)) = k0 l p x y w e (pu .u32 (Qh bs))
 | 0, i, n + 1, h, hn => by
   obtain rfl : i = 48 := by omega
   simp only [VW, GR]
   refine (Jv (by decide)).trans ?_
   rw [Vs, List.drop_of_length_le (by omega), List.append_nil]; rfl
 | d + 1, i, n + 1, h, hn => by
   have h15 : IntKind.i64.wrap (((i + 16 : Nat) : Int) - 15) = ((i + 1 : Nat) : Int) := by rw [wrap_i64 (by omega) (by omega)]; omega
   have h2 : IntKind.i64.wrap (((i + 16 : Nat) : Int) - 2) = ((i + 14 : Nat) : Int) := by rw [wrap_i64 (by omega) (by omega)]; omega
   have h16 : IntKind.i64.wrap (((i + 16 : Nat) : Int) - 16) = ((i : Nat) : Int) := by rw [wrap_i64 (by omega) (by omega)]; omega
   have h7 : IntKind.i64.wrap (((i + 16 : Nat) : Int) - 7) = ((i + 9 : Nat) : Int) := by rw [wrap_i64 (by omega) (by omega)]; omega
   have h1 : IntKind.i64.wrap (((i + 16 : Nat) : Int) + 1) = ((i + 1 + 16 : Nat) : Int) := by rw [wrap_i64 (by omega) (by omega)]; omega
   have hl := Jfm bs T hT i (by omega)
   simp only [VW, GR, h15, h2, h16, h7, h1, Int.toNat_natCast, zi, WR]
   rw [JW (by omega), JW (by omega), JW (by omega), JW (by omega), Qr (by omega), Qr (by omega), Qr (by omega), Qr (by omega), Ws]
   refine (Jb (by simp; omega)).trans ?_
   refine (Jb (by simp; omega)).trans ?_
   refine (Jb rfl).trans ?_
   refine (Jb (by simp; omega)).trans ?_
   refine (Jb rfl).trans ?_
   refine (Jb (by simp; omega)).trans ?_
   refine (Jb rfl).trans ?_
   refine (Jb (by simp; omega)).trans ?_
   refine (Jb rfl).trans ?_
   refine (Jb (by simp; omega)).trans ?_
   have := JtR bs T hT f l p x y w e k0 d (i + 1) n (by omega) (by omega)
   rw [Vf bs T i i (by omega), Vf bs T i (i + 1) (by omega), Vf bs T i (i + 9) (by omega), Vf bs T i (i + 14) (by omega), Jlz bs T hT i (by omega)]
   have hn := Jq9 ((Qs bs i).getD i 0) ((Qs bs i).getD (i + 1) 0) ((Qs bs i).getD (i + 9) 0) ((Qs bs i).getD (i + 14) 0)
   rw [Vs, Qs, ← hn] at this
   exact this
theorem JtS (W s : List Int) (hW : W.length = 64) (hs : s.length = 8) (f : Nat) (l : Nat) (p : Int) (x w e : List PV) (k0 : Nat -> Int -> List PV -> List PV -> List PV -> List PV -> List PV -> List PV -> Option Res) : ∀ (d i n : Nat), i + d = 64 -> d < n ->
  VX f k0 n l p (i : Int) x (pu .u32 kks) w e (pu .u32 W) (pu .u32 (Zl W s i)) = k0 l p x (pu .u32 kks) w e (pu .u32 W) (pu .u32 (Zl W s 64))
 | 0, i, n + 1, h, hn => by
   obtain rfl : i = 64 := by omega
   simp only [VX, GS]
   exact Jv (by decide)
 | d + 1, i, n + 1, h, hn => by
   have hl := XA W s hs i
   have h1 : IntKind.i64.wrap ((i : Int) + 1) = ((i + 1 : Nat) : Int) := by rw [wrap_i64 (by omega) (by omega)]; omega
   have hk : (pu .u32 kks).getD i .top = .sc (.int .u32 (kks.getD i 0)) := Zc (by show i < 64; omega)
   have hw : (pu .u32 W).getD i .top = .sc (.int .u32 (W.getD i 0)) := Zc (by omega)
   have c1 : decide ((i : Int) < 64) = true := by simp; omega
   have c2 : decide (0 <= (i : Int)) = true := by simp
   have c3 : decide ((i : Int) < zi 64) = true := by simp; omega
   simp only [VX, GS, WR, Int.toNat_natCast, h1, hk, hw, c1, c2, c3, Xn hl 0 (by omega), Xn hl 1 (by omega), Xn hl 2 (by omega), Xn hl 3 (by omega), Xn hl 4 (by omega), Xn hl 5 (by omega), Xn hl 6 (by omega), Xn hl 7 (by omega), PV.isInt, PV.int, decide_true, Bool.and_true, cond_true]
   exact JtS W s hW hs f l p x w e k0 d (i + 1) n (by omega) (by omega)
theorem JtT (t s : List Int) (ht : t.length = 8) (hs : s.length = 8) (f : Nat) (l : Nat) (p : Int) (x y e u : List PV) (k0 : Nat -> Int -> List PV -> List PV -> List PV -> List PV -> List PV -> Option Res) : ∀ (d i n : Nat), i + d = 8 -> d < n ->
  VY f k0 n l p (i : Int) x y (pu .u32 (QB (fun j => ww (t.getD j 0 + s.getD j 0)) s i)) e u (pu .u32 t) = k0 l p x y (pu .u32 ((List.range 8).map fun j => ww (t.getD j 0 + s.getD j 0))) e u
 | 0, i, n + 1, h, hn => by
   obtain rfl : i = 8 := by omega
   simp only [VY, GT]
   refine (Jv (by decide)).trans ?_
   have := Q2 (fun j => ww (t.getD j 0 + s.getD j 0)) s
   rw [hs] at this; rw [this]
 | d + 1, i, n + 1, h, hn => by
   have hl : (QB (fun j => ww (t.getD j 0 + s.getD j 0)) s i).length = 8 := by rw [Yn _ _ _ (by omega), hs]
   have h1 : IntKind.i64.wrap ((i : Int) + 1) = ((i + 1 : Nat) : Int) := by rw [wrap_i64 (by omega) (by omega)]; omega
   have c1 : decide ((i : Int) < 8) = true := by simp; omega
   have c2 : decide (0 <= (i : Int)) = true := by simp
   have c3 : decide ((i : Int) < zi 8) = true := by simp; omega
   have g1 : ((i : Int)).toNat = i := by omega
   simp only [VY, GT, WR, g1, h1, c1, c2, c3, Xn hl i (by omega), Xn ht i (by omega), Jak _ s i (by omega), PV.isInt, PV.int, decide_true, Bool.and_true, cond_true, Ws]
   have := JtT t s ht hs f l p x y e u k0 d (i + 1) n (by omega) (by omega)
   rw [← Qw _ s i (by omega), Int.add_comm (t.getD i 0)] at this
   exact this
theorem JCx (s : List Int) (i : Nat) : YX s (4 * i) = IntKind.u8.wrap (JD .u32 (s.getD i 0) 24) := by
 rw [YX, show 4 * i / 4 = i from by omega, show 4 * i % 4 = 0 from by omega]; rfl
theorem JCy (s : List Int) (i : Nat) : YX s (4 * i + 1) = IntKind.u8.wrap (JD .u32 (s.getD i 0) 16) := by
 rw [YX, show (4 * i + 1) / 4 = i from by omega, show (4 * i + 1) % 4 = 1 from by omega]; rfl
theorem JCz (s : List Int) (i : Nat) : YX s (4 * i + 2) = IntKind.u8.wrap (JD .u32 (s.getD i 0) 8) := by
 rw [YX, show (4 * i + 2) / 4 = i from by omega, show (4 * i + 2) % 4 = 2 from by omega]; rfl
theorem JCA (s : List Int) (i : Nat) : YX s (4 * i + 3) = IntKind.u8.wrap (s.getD i 0) := by
 rw [YX, show (4 * i + 3) / 4 = i from by omega, show (4 * i + 3) % 4 = 3 from by omega]
 have : JD .u32 (s.getD i 0) (24 - 8 * ((3 : Nat) : Int)) = s.getD i 0 := by
  have h0 : (24 - 8 * ((3 : Nat) : Int)) = 0 := by decide
  rw [h0]; simp [JD]
 rw [this]
theorem JtU (s : List Int) (hs : s.length = 8) (f : Nat) (k0 : List PV -> List PV -> Option Res) (a : List PV) (t : List Int) (ht : t.length = 32) : ∀ (d i n : Nat), i + d = 8 -> d < n ->
  V0 f k0 n (i : Int) a (pu .u32 s) (pu .u8 (QB (YX s) t (4 * i))) = k0 a (pu .u8 (Jls s))
 | 0, i, n + 1, h, hn => by
   obtain rfl : i = 8 := by omega
   simp only [V0, GV]
   refine (Jv (by decide)).trans ?_
   have := Q2 (YX s) t
   rw [ht] at this; rw [show 4 * 8 = 32 from rfl, this]; rfl
 | d + 1, i, n + 1, h, hn => by
   have h1 : IntKind.i64.wrap ((i : Int) + 1) = ((i + 1 : Nat) : Int) := by rw [wrap_i64 (by omega) (by omega)]; omega
   have h4 : IntKind.i64.wrap (4 * (i : Int)) = ((4 * i : Nat) : Int) := by rw [wrap_i64 (by omega) (by omega)]; omega
   have h41 : IntKind.i64.wrap (((4 * i : Nat) : Int) + 1) = ((4 * i + 1 : Nat) : Int) := by rw [wrap_i64 (by omega) (by omega)]; omega
   have h42 : IntKind.i64.wrap (((4 * i : Nat) : Int) + 2) = ((4 * i + 2 : Nat) : Int) := by rw [wrap_i64 (by omega) (by omega)]; omega
   have h43 : IntKind.i64.wrap (((4 * i : Nat) : Int) + 3) = ((4 * i + 3 : Nat) : Int) := by rw [wrap_i64 (by omega) (by omega)]; omega
   have c1 : decide ((i : Int) < 8) = true := by simp; omega
   have c2 : decide (0 <= (i : Int)) = true := by simp
   have c3 : decide ((i : Int) < zi 8) = true := by simp; omega
   have b0 : (decide (0 <= ((4 * i : Nat) : Int)) && decide (((4 * i : Nat) : Int) < zi 32) && true) = true := by simp; omega
   have b1 : (decide (0 <= ((4 * i + 1 : Nat) : Int)) && decide (((4 * i + 1 : Nat) : Int) < zi 32) && true) = true := by simp; omega
   have b2 : (decide (0 <= ((4 * i + 2 : Nat) : Int)) && decide (((4 * i + 2 : Nat) : Int) < zi 32) && true) = true := by simp; omega
   have b3 : (decide (0 <= ((4 * i + 3 : Nat) : Int)) && decide (((4 * i + 3 : Nat) : Int) < zi 32) && true) = true := by simp; omega
   have g1 : ((i : Int)).toNat = i := by omega
   have g2 : (((4 * i : Nat) : Int)).toNat = 4 * i := by omega
   have g3 : (((4 * i + 1 : Nat) : Int)).toNat = 4 * i + 1 := by omega
   have g4 : (((4 * i + 2 : Nat) : Int)).toNat = 4 * i + 2 := by omega
   have g5 : (((4 * i + 3 : Nat) : Int)).toNat = 4 * i + 3 := by omega
   simp only [V0, GV, h1, h4, h41, h42, h43, b0, b1, b2, b3, g1, g2, g3, g4, g5, WR, c1, c2, c3, Xn hs i (by omega), PV.isInt, PV.int, decide_true, Bool.and_true, cond_true, Ws]
   have := JtU s hs f k0 a t ht d (i + 1) n (by omega) (by omega)
   rw [show 4 * (i + 1) = 4 * i + 3 + 1 from by omega, ← Qw (YX s) t (4 * i + 3) (by omega), ← Qw (YX s) t (4 * i + 2) (by omega), ← Qw (YX s) t (4 * i + 1) (by omega), ← Qw (YX s) t (4 * i) (by omega), JCx, JCy, JCz, JCA] at this
   exact this
theorem JtV (P : List Int) (m : Nat) (hP : P.length = 64 * m) (hb : P.length <= 140737488356000) (f : Nat) (hf : 100 <= f) (x : List PV) (k0 : List PV -> List PV -> Option Res) : ∀ (d i n : Nat) (T : List Int), i + d = m -> d < n -> T.length = 64 ->
  VZ f k0 n P.length ((64 * i : Nat) : Int) x (pu .u32 kks) (pu .u32 (Wg iv P i)) (pu .u8 P) (pu .u32 T) = k0 x (pu .u32 (Wg iv P m))
 | 0, i, n + 1, T, h, hn, hT => by
   obtain rfl : i = m := by omega
   simp only [VZ, GU]
   exact Jv (by simp [zi]; omega)
 | d + 1, i, n + 1, T, h, hn, hT => by
   have hfl := WW iv P rfl i
   simp only [VZ, GU]
   refine (Jb (by simp [zi]; omega)).trans ?_
   have e3 := fun kk => JtQ P i (by omega) hb T hT f x (pu .u32 kks) (pu .u32 (Wg iv P i)) kk 16 0 f (by omega) (by omega)
   have e4 := fun kk => JtR ((P.drop (64 * i)).take 64) T hT f P.length ((64 * i : Nat) : Int) x (pu .u32 kks) (pu .u32 (Wg iv P i)) (pu .u8 P) kk 48 0 f (by omega) (by omega)
   have hW : (Qh ((P.drop (64 * i)).take 64)).length = 64 := JX _ 48
   have e5 := fun kk => JtS (Qh ((P.drop (64 * i)).take 64)) (Wg iv P i) hW hfl f P.length ((64 * i : Nat) : Int) x (pu .u32 (Wg iv P i)) (pu .u8 P) kk 64 0 f (by omega) (by omega)
   have e6 := fun kk => JtT (Zl (Qh ((P.drop (64 * i)).take 64)) (Wg iv P i) 64) (Wg iv P i) (XA _ _ hfl 64) hfl f P.length ((64 * i : Nat) : Int) x (pu .u32 kks) (pu .u8 P) (pu .u32 (Qh ((P.drop (64 * i)).take 64))) kk 8 0 f (by omega) (by omega)
   have h0 : QB (JcQ ((P.drop (64 * i)).take 64)) T 16 = Vs ((P.drop (64 * i)).take 64) T 0 := rfl
   rw [QH] at e6
   simp only [QH] at e3
   refine (e3 _).trans ?_
   rw [h0]
   refine (e4 _).trans ?_
   refine (e5 _).trans ?_
   refine (e6 _).trans ?_
   have h1 : IntKind.i64.wrap (((64 * i : Nat) : Int) + 64) = ((64 * (i + 1) : Nat) : Int) := by rw [wrap_i64 (by omega) (by omega)]; omega
   rw [h1]
   exact JtV P m hP hb f hf x k0 d (i + 1) n (Qh ((P.drop (64 * i)).take 64)) (by omega) (by omega) hW
theorem JwH (bs : List Int) (hb : bs.length <= 140737488355000) (nl fl : Bool) (k : Res -> Option Res) : g28 ((QC bs).length / 64 + 100) nl fl (pu .u8 bs) k = k ⟨.ar 37 (pu .u8 (JE bs)), [], []⟩ := by
 rw [Jbp]
 have hlen : (QC bs).length = bs.length + 1 + zs (bs.length + 1) + 8 := by simp [QC, Jpr]; omega
 have hz : zs (bs.length + 1) < 64 := by unfold zs; omega
 have h64 : (QC bs).length = 64 * ((QC bs).length / 64) := JaZ bs
 generalize hf : (QC bs).length / 64 + 100 = f
 refine (Jb (by simp [Jl]; omega)).trans ?_
 refine (Jb (by simp [Jl]; omega)).trans ?_
 have hL : List.take (0 + (pu .u8 bs).length) ([] ++ pu .u8 bs) ++ [PV.sc (Value.int IntKind.u8 128)] = pu .u8 (bs ++ [128]) := by
  rw [List.take_of_length_le (by simp)]; simp
 rw [hL]
 have e0 := fun kk x y w => JtO f nl fl (pu .u8 bs) x y w kk (zs (bs.length + 1)) f (bs ++ [128]) (by simp) (by omega) (by simp; omega)
 simp only [List.length_append, List.length_cons, List.length_nil, Nat.zero_add] at e0
 have hl1 : 0 + (pu .u8 bs).length + 1 = bs.length + 1 := by simp
 rw [hl1]
 refine (e0 _ _ _ _).trans ?_
 have e1 := fun kk x y w => JtP f (IntKind.u64.wrap (IntKind.u64.wrap (zi (pu .u8 bs).length) * 8)) x y w kk (bs ++ [128] ++ List.replicate (zs (bs.length + 1)) 0) (by simp; omega) 8 0 f (by omega) (by omega)
 have hl2 : (bs ++ [128] ++ List.replicate (zs (bs.length + 1)) 0).length = bs.length + 1 + zs (bs.length + 1) := by simp; omega
 rw [hl2] at e1
 simp only [List.range_zero, List.map_nil, List.append_nil, Nat.add_zero] at e1
 refine (e1 _ _ _ _).trans ?_
 have hPd : bs ++ [128] ++ List.replicate (zs (bs.length + 1)) 0 ++ (List.range 8).map (Jq8 (IntKind.u64.wrap (IntKind.u64.wrap (zi (pu .u8 bs).length) * 8))) = QC bs := by
  rw [JJ]; rfl
 rw [hPd, ← hlen]
 have e2 := fun kk x => JtV (QC bs) ((QC bs).length / 64) h64 (by omega) f (by omega) x kk ((QC bs).length / 64) 0 f (List.replicate 64 0) (by omega) (by omega) (by simp)
 refine (e2 _ _).trans ?_
 have hfl := WW iv (QC bs) rfl ((QC bs).length / 64)
 have e7 := fun kk a => JtU (Wg iv (QC bs) ((QC bs).length / 64)) hfl f kk a (List.replicate 32 0) (by simp) 8 0 f (by omega) (by omega)
 simp only [Nat.mul_zero, QH] at e7
 exact e7 _ _
def JiM : List PV -> List Ent -> (Res -> Option Res) -> Option Res
 | [.ro 5 nl fl b], [], k => bif Jh .u8 b && decide (b.length <= 140737488355000) then k ⟨.ar 37 (pu .u8 (JE (Ji b))), [], []⟩ else none
 | _, _, _ => none
def JCB : Sig := { own := [], run := JiM }
theorem JCC : Jf tau Try.prog 28 JCB := JhL Jq YG Jr JCv JCw (fun n => JqZ (Jcu n) (Jcv n) (Jcw n) (Jcx n)) [] 0 [] JiM (fun n => JFZ n) fun xs es k res hr => by
 unfold JiM at hr
 split at hr
 · rename_i nl fl l
   obtain ⟨hc, hr⟩ := JG hr
   simp only [Bool.and_eq_true, decide_eq_true_eq] at hc
   refine ⟨rfl, (QC (Ji l)).length / 64 + 100, 0, (e28 _ _ _ _ _).trans ?_⟩
   have he := Qc hc.1
   have := JwH (Ji l) (by simpa using hc.2) nl fl k
   rw [← he] at this
   rw [this]; exact hr
 · cases hr
noncomputable abbrev z36 : List PV := [.sc (.int .u8 0), .sc (.int .u8 0), .sc (.int .u8 0), .sc (.int .u8 0), .sc (.int .u8 0), .sc (.int .u8 0), .sc (.int .u8 0), .sc (.int .u8 0), .sc (.int .u8 0), .sc (.int .u8 0), .sc (.int .u8 0), .sc (.int .u8 0), .sc (.int .u8 0), .sc (.int .u8 0), .sc (.int .u8 0), .sc (.int .u8 0), .sc (.int .u8 0), .sc (.int .u8 0), .sc (.int .u8 0), .sc (.int .u8 0), .sc (.int .u8 0), .sc (.int .u8 0), .sc (.int .u8 0), .sc (.int .u8 0), .sc (.int .u8 0), .sc (.int .u8 0), .sc (.int .u8 0), .sc (.int .u8 0), .sc (.int .u8 0), .sc (.int .u8 0), .sc (.int .u8 0), .sc (.int .u8 0), .sc (.int .u8 0), .sc (.int .u8 0), .sc (.int .u8 0), .sc (.int .u8 0), .sc (.int .u8 0), .sc (.int .u8 0), .sc (.int .u8 0), .sc (.int .u8 0), .sc (.int .u8 0), .sc (.int .u8 0), .sc (.int .u8 0), .sc (.int .u8 0), .sc (.int .u8 0), .sc (.int .u8 0), .sc (.int .u8 0), .sc (.int .u8 0), .sc (.int .u8 0), .sc (.int .u8 0), .sc (.int .u8 0), .sc (.int .u8 0), .sc (.int .u8 0), .sc (.int .u8 0), .sc (.int .u8 0), .sc (.int .u8 0), .sc (.int .u8 0), .sc (.int .u8 0), .sc (.int .u8 0), .sc (.int .u8 0), .sc (.int .u8 0), .sc (.int .u8 0), .sc (.int .u8 0), .sc (.int .u8 0)]
def N36 : Nat := 53
def F36 : Fns := JC 28 JCB (F0)
theorem Jn1 : Ju tau Try.prog F36 := (JB).add JCC JF0
def JdS : Code := Qu (Try.f36.body.get!) [1, 1, 1, 1, 0, 1, 0, 0]
def YP : Nm := [(1, .any), (4, .any), (5, .any), (7, .any), (8, .any), (9, .any)]
def ZV : Nm := [(1, .any), (4, .any), (7, .any), (8, .any)]
def JgT : An := (.seq (.seq .leaf (.cond .leaf .leaf)) (.seq (.block none .leaf) .leaf))
def Jra (r0 : QJ) : An := (.seq .leaf (.seq .leaf (.seq (.seq .leaf (.cond (.seq .leaf .leaf) .leaf)) (.seq .leaf (.seq (.seq .leaf (.block none (.sum YP N36 r0))) (.seq .leaf (.seq .leaf .leaf)))))))
def GW (f : Nat) (rc : Bool -> Bool -> List PV -> Int -> List PV -> List PV -> List PV -> List PV -> Option Res) (k0 : Bool -> Bool -> List PV -> List PV -> List PV -> List PV -> Option Res) (v0 v1 : Bool) (v2 : List PV) (v3 : Int) (v4 v5 v6 v7 : List PV) : Option Res := bif decide (v3 < 64) then bif decide (0 <= v3) && decide (v3 < zi 64) && true then bif PV.isInt IntKind.u8 (Jm (v5.getD (0 + v3.toNat) PV.top) []) && true then bif decide (0 <= v3) && decide (v3 < zi 64) && true then bif PV.isInt IntKind.u8 (Jm (v5.getD (0 + v3.toNat) PV.top) []) && true then bif decide (0 <= v3) && decide (v3 < zi 64) && true then bif decide (0 <= v3) && decide (v3 < zi 64) && true then rc v0 v1 v2 (IntKind.i64.wrap (v3 + 1)) v4 v5 (v6.set (0 + v3.toNat) (.sc (.int .u8 (JH BinOp.xor IntKind.u8 (Jm (v5.getD (0 + v3.toNat) PV.top) []).int 54)))) (v7.set (0 + v3.toNat) (.sc (.int .u8 (JH BinOp.xor IntKind.u8 (Jm (v5.getD (0 + v3.toNat) PV.top) []).int 92)))) else none else none else none else none else none else none else k0 v0 v1 v2 v4 v6 v7
def Xo (f : Nat) (k0 : Bool -> Bool -> List PV -> List PV -> List PV -> List PV -> Option Res) : Nat -> Bool -> Bool -> List PV -> Int -> List PV -> List PV -> List PV -> List PV -> Option Res
 | 0, _, _, _, _, _, _, _, _ => none
 | n + 1, v0, v1, v2, v3, v4, v5, v6, v7 => GW f (Xo f k0 n) k0 v0 v1 v2 v3 v4 v5 v6 v7
theorem Jrb (f : Nat) (k : Kont) (n : Nat) (v0 v1 : Bool) (v2 : List PV) (v3 : Int) (v4 v5 v6 v7 : List PV) : Jn tau 0 YP (fun s k => ev tau F36 0 0 JdS (JgT ) s k) (n + 1) (Jd YP N36 [.ro 5 v0 v1 v2, .ptr 864 [], .ow 5 865 [] 0 64 (some 64), .ow 5 866 [] 0 64 (some 64), .ow 5 867 [] 0 64 (some 64), .sc (.int .i64 v3)] [(864, .box false 37 (PV.ar 37 v4)), (865, .vec false 5 false v5), (866, .vec false 5 false v6), (867, .vec false 5 false v7)]) (Jt tau 0 ZV k) = GW f (fun v0 v1 v2 v3 v4 v5 v6 v7 => Jn tau 0 YP (fun s k => ev tau F36 0 0 JdS (JgT ) s k) n (Jd YP N36 [.ro 5 v0 v1 v2, .ptr 864 [], .ow 5 865 [] 0 64 (some 64), .ow 5 866 [] 0 64 (some 64), .ow 5 867 [] 0 64 (some 64), .sc (.int .i64 v3)] [(864, .box false 37 (PV.ar 37 v4)), (865, .vec false 5 false v5), (866, .vec false 5 false v6), (867, .vec false 5 false v7)]) (Jt tau 0 ZV k)) (fun x0 x1 x2 x3 x4 x5 => k (Ex.exit 0) (Jd ZV N36 [.ro 5 x0 x1 x2, .ptr 864 [], .ow 5 865 [] 0 64 (some 64), .ow 5 866 [] 0 64 (some 64)] [(864, .box false 37 (PV.ar 37 x3)), (865, .vec false 5 false x4), (866, .vec false 5 false x5)])) v0 v1 v2 v3 v4 v5 v6 v7 := by kernel_rfl
theorem JkL (f : Nat) (k : Kont) : ∀ (n : Nat) (v0 v1 : Bool) (v2 : List PV) (v3 : Int) (v4 v5 v6 v7 : List PV), Jn tau 0 YP (fun s k => ev tau F36 0 0 JdS (JgT ) s k) n (Jd YP N36 [.ro 5 v0 v1 v2, .ptr 864 [], .ow 5 865 [] 0 64 (some 64), .ow 5 866 [] 0 64 (some 64), .ow 5 867 [] 0 64 (some 64), .sc (.int .i64 v3)] [(864, .box false 37 (PV.ar 37 v4)), (865, .vec false 5 false v5), (866, .vec false 5 false v6), (867, .vec false 5 false v7)]) (Jt tau 0 ZV k) = Xo f (fun x0 x1 x2 x3 x4 x5 => k (Ex.exit 0) (Jd ZV N36 [.ro 5 x0 x1 x2, .ptr 864 [], .ow 5 865 [] 0 64 (some 64), .ow 5 866 [] 0 64 (some 64)] [(864, .box false 37 (PV.ar 37 x3)), (865, .vec false 5 false x4), (866, .vec false 5 false x5)])) n v0 v1 v2 v3 v4 v5 v6 v7 | 0, _, _, _, _, _, _, _, _ => rfl | n + 1, v0, v1, v2, v3, v4, v5, v6, v7 => (Jrb f k n v0 v1 v2 v3 v4 v5 v6 v7).trans (congrArg (fun r => GW f r (fun x0 x1 x2 x3 x4 x5 => k (Ex.exit 0) (Jd ZV N36 [.ro 5 x0 x1 x2, .ptr 864 [], .ow 5 865 [] 0 64 (some 64), .ow 5 866 [] 0 64 (some 64)] [(864, .box false 37 (PV.ar 37 x3)), (865, .vec false 5 false x4), (866, .vec false 5 false x5)])) v0 v1 v2 v3 v4 v5 v6 v7) (by funext v0 v1 v2 v3 v4 v5 v6 v7; exact JkL f k n v0 v1 v2 v3 v4 v5 v6 v7))
def Jcy (f : Nat) : List PV -> List (Nat × Ent) -> Kont -> Option Res
 | [.ro 5 v0 v1 v2, .ptr 864 [], .ow 5 865 [] 0 64 (some 64), .ow 5 866 [] 0 64 (some 64), .ow 5 867 [] 0 64 (some 64),
 PV.sc
  (Value.int IntKind.i64
   v3)], [(864, .box false 37 (PV.ar 37 v4)), (865, .vec false 5 false v5), (866, .vec false 5 false v6),
 (867,
  Ent.vec false 5 false
   v7)], k => Xo f (fun x0 x1 x2 x3 x4 x5 => k (Ex.exit
 0) (Jd ZV N36 [.ro 5 x0 x1 x2, .ptr 864 [], .ow 5 865 [] 0 64 (some 64),
 PV.ow 5 866 [] 0 64 (some 64)] [(864, .box false 37 (PV.ar 37 x3)), (865, .vec false 5 false x4), (866, .vec false 5 false x5)])) f v0 v1 v2 v3 v4 v5 v6 v7
 | _, _, _ => none
theorem JwI (f : Nat) : Je JdS JgT = [] := by kernel_rfl
theorem JCD (f : Nat) : (Item.l JdS YP N36 (Jcy f)).Ok tau Try.prog 0 := JI Jq Jn1 Jr (x := JgT) (nm2 := ZV) (Js _ _ (by rw [JwI f]; intro q hq; cases hq)) fun vs hp k res hr => by
 unfold Jcy at hr
 split at hr
 · exact ⟨f, 0, (JkL f _ f _ _ _ _ _ _ _ _ ).trans hr⟩
 · cases hr
def g36 (f : Nat) (y0 y1 : Bool) (key : List PV) (y2 y3 : Bool) (text : List PV) (k : Res -> Option Res) : Option Res := bif decide (zi key.length > 64) then bif Jh IntKind.u8 key && decide (key.length <= 140737488355000) then Xo f (fun x0_0 x1_0 x2_0 x3_0 x4_0 x5_0 => bif Jl (64 + x2_0.length) 1 && true then bif Jh IntKind.u8 (List.take (64 + x2_0.length) (List.take 64 x4_0 ++ x2_0)) && decide ((List.take (64 + x2_0.length) (List.take 64 x4_0 ++ x2_0)).length <= 140737488355000) then bif Jl (64 + (List.take 32 (pu IntKind.u8 (JE (Ji (List.take (64 + x2_0.length) (List.take 64 x4_0 ++ x2_0)))))).length) 1 && true then bif Jh IntKind.u8 (List.take (64 + (List.take 32 (pu IntKind.u8 (JE (Ji (List.take (64 + x2_0.length) (List.take 64 x4_0 ++ x2_0)))))).length) (List.take 64 x5_0 ++ List.take 32 (pu IntKind.u8 (JE (Ji (List.take (64 + x2_0.length) (List.take 64 x4_0 ++ x2_0))))))) && decide ((List.take (64 + (List.take 32 (pu IntKind.u8 (JE (Ji (List.take (64 + x2_0.length) (List.take 64 x4_0 ++ x2_0)))))).length) (List.take 64 x5_0 ++ List.take 32 (pu IntKind.u8 (JE (Ji (List.take (64 + x2_0.length) (List.take 64 x4_0 ++ x2_0))))))).length <= 140737488355000) then k (Res.mk (.ar 37 (pu IntKind.u8 (JE (Ji (List.take (64 + (List.take 32 (pu IntKind.u8 (JE (Ji (List.take (64 + x2_0.length) (List.take 64 x4_0 ++ x2_0)))))).length) (List.take 64 x5_0 ++ List.take 32 (pu IntKind.u8 (JE (Ji (List.take (64 + x2_0.length) (List.take 64 x4_0 ++ x2_0))))))))))) [] []) else none else none else none else none) f y2 y3 text (0) ([.sc (.int .u8 0), .sc (.int .u8 0), .sc (.int .u8 0), .sc (.int .u8 0), .sc (.int .u8 0), .sc (.int .u8 0), .sc (.int .u8 0), .sc (.int .u8 0), .sc (.int .u8 0), .sc (.int .u8 0), .sc (.int .u8 0), .sc (.int .u8 0), .sc (.int .u8 0), .sc (.int .u8 0), .sc (.int .u8 0), .sc (.int .u8 0), .sc (.int .u8 0), .sc (.int .u8 0), .sc (.int .u8 0), .sc (.int .u8 0), .sc (.int .u8 0), .sc (.int .u8 0), .sc (.int .u8 0), .sc (.int .u8 0), .sc (.int .u8 0), .sc (.int .u8 0), .sc (.int .u8 0), .sc (.int .u8 0), .sc (.int .u8 0), .sc (.int .u8 0), .sc (.int .u8 0), .sc (.int .u8 0)]) (List.take 64 (List.take 32 (pu IntKind.u8 (JE (Ji key)))) ++ List.drop (0 + min (List.take 32 (pu IntKind.u8 (JE (Ji key)))).length 64) z36) (z36) (z36) else none else Xo f (fun x0_1 x1_1 x2_1 x3_1 x4_1 x5_1 => bif Jl (64 + x2_1.length) 1 && true then bif Jh IntKind.u8 (List.take (64 + x2_1.length) (List.take 64 x4_1 ++ x2_1)) && decide ((List.take (64 + x2_1.length) (List.take 64 x4_1 ++ x2_1)).length <= 140737488355000) then bif Jl (64 + (List.take 32 (pu IntKind.u8 (JE (Ji (List.take (64 + x2_1.length) (List.take 64 x4_1 ++ x2_1)))))).length) 1 && true then bif Jh IntKind.u8 (List.take (64 + (List.take 32 (pu IntKind.u8 (JE (Ji (List.take (64 + x2_1.length) (List.take 64 x4_1 ++ x2_1)))))).length) (List.take 64 x5_1 ++ List.take 32 (pu IntKind.u8 (JE (Ji (List.take (64 + x2_1.length) (List.take 64 x4_1 ++ x2_1))))))) && decide ((List.take (64 + (List.take 32 (pu IntKind.u8 (JE (Ji (List.take (64 + x2_1.length) (List.take 64 x4_1 ++ x2_1)))))).length) (List.take 64 x5_1 ++ List.take 32 (pu IntKind.u8 (JE (Ji (List.take (64 + x2_1.length) (List.take 64 x4_1 ++ x2_1))))))).length <= 140737488355000) then k (Res.mk (.ar 37 (pu IntKind.u8 (JE (Ji (List.take (64 + (List.take 32 (pu IntKind.u8 (JE (Ji (List.take (64 + x2_1.length) (List.take 64 x4_1 ++ x2_1)))))).length) (List.take 64 x5_1 ++ List.take 32 (pu IntKind.u8 (JE (Ji (List.take (64 + x2_1.length) (List.take 64 x4_1 ++ x2_1))))))))))) [] []) else none else none else none else none) f y2 y3 text (0) ([.sc (.int .u8 0), .sc (.int .u8 0), .sc (.int .u8 0), .sc (.int .u8 0), .sc (.int .u8 0), .sc (.int .u8 0), .sc (.int .u8 0), .sc (.int .u8 0), .sc (.int .u8 0), .sc (.int .u8 0), .sc (.int .u8 0), .sc (.int .u8 0), .sc (.int .u8 0), .sc (.int .u8 0), .sc (.int .u8 0), .sc (.int .u8 0), .sc (.int .u8 0), .sc (.int .u8 0), .sc (.int .u8 0), .sc (.int .u8 0), .sc (.int .u8 0), .sc (.int .u8 0), .sc (.int .u8 0), .sc (.int .u8 0), .sc (.int .u8 0), .sc (.int .u8 0), .sc (.int .u8 0), .sc (.int .u8 0), .sc (.int .u8 0), .sc (.int .u8 0), .sc (.int .u8 0), .sc (.int .u8 0)]) (List.take 64 key ++ List.drop (0 + min key.length 64) z36) (z36) (z36)
theorem e36 (f : Nat) (y0 y1 : Bool) (key : List PV) (y2 y3 : Bool) (text : List PV) (k : Res -> Option Res) : JN tau F36 Try.f36 (Try.f36.body.get!) (Jra (Jcy f)) [.ro] 0 [.ro 5 y0 y1 key, .ro 5 y2 y3 text] [] k = g36 f y0 y1 key y2 y3 text k := by kernel_rfl
theorem JF1 (f : Nat) : Je (Try.f36.body.get!) (Jra (Jcy f)) = [.l JdS YP N36 (Jcy f)] := by kernel_rfl
theorem JF2 (f : Nat) : ∀ q ∈ Je (Try.f36.body.get!) (Jra (Jcy f)), q.Ok tau Try.prog 0 := by
 rw [JF1 f]; simp only [List.forall_mem_cons, List.not_mem_nil, false_implies, implies_true, and_true]; exact JCD f
theorem JCE : Try.prog.funcs[36]? = some Try.f36 := by kernel_rfl
theorem JCF : Try.f36.body = some (Try.f36.body.get!) := by kernel_rfl
theorem JCG : Enters Try.prog 36 := enters_of JCE (by kernel_rfl) JCF
-- FN ref3.Mac
theorem JdT (K : List Int) (hK : K.length = 64) (x : Int) : (List.range 64).map (fun j => JH .xor .u8 (K.getD j 0) x) = JV K x := by
 rw [← Jgu K hK x]
 apply List.map_congr_left
 intro j _
 exact Vr _ _ _
theorem JtW (K : List Int) (hK : K.length = 64) (f : Nat) (k0 : Bool -> Bool -> List PV -> List PV -> List PV -> List PV -> Option Res) (tz tf : Bool) (text h : List PV) : ∀ (d i n : Nat), i + d = 64 -> d < n ->
  Xo f k0 n tz tf text (i : Int) h (pu .u8 K) (pu .u8 (QB (fun j => JH .xor .u8 (K.getD j 0) 54) (List.replicate 64 0) i)) (pu .u8 (QB (fun j => JH .xor .u8 (K.getD j 0) 92) (List.replicate 64 0) i)) = k0 tz tf text h (pu .u8 (JV K 54)) (pu .u8 (JV K 92))
 | 0, i, n + 1, hh, hn => by
   obtain rfl : i = 64 := by omega
   simp only [Xo, GW]
   refine (Jv (by decide)).trans ?_
   have h1 := Q2 (fun j => JH .xor .u8 (K.getD j 0) 54) (List.replicate 64 0)
   have h2 := Q2 (fun j => JH .xor .u8 (K.getD j 0) 92) (List.replicate 64 0)
   rw [List.length_replicate] at h1 h2
   rw [h1, h2, JdT K hK, JdT K hK]
 | d + 1, i, n + 1, hh, hn => by
   have g1 : ((i : Int)).toNat = i := by omega
   have h1 : IntKind.i64.wrap ((i : Int) + 1) = ((i + 1 : Nat) : Int) := by rw [wrap_i64 (by omega) (by omega)]; omega
   have c0 : (decide (0 <= (i : Int)) && decide ((i : Int) < zi 64) && true) = true := by simp; omega
   simp only [Xo, GW, g1, h1, Nat.zero_add, Jm]
   rw [JW (by omega), Qr (by omega), Ws, Ws]
   refine (Jb (by simp; omega)).trans ((Jb c0).trans ((Jb rfl).trans ((Jb c0).trans ((Jb rfl).trans ((Jb c0).trans ((Jb c0).trans ?_))))))
   have := JtW K hK f k0 tz tf text h d (i + 1) n (by omega) (by omega)
   rw [← Qw _ _ i (by simp; omega), ← Qw _ _ i (by simp; omega)] at this
   exact this
def Vg (a b text : List PV) (k : Res -> Option Res) : Option Res :=
 bif Jl (64 + text.length) 1 && true then
  bif Jh .u8 (List.take (64 + text.length) (List.take 64 a ++ text)) && decide ((List.take (64 + text.length) (List.take 64 a ++ text)).length <= 140737488355000) then
   bif Jl (64 + (List.take 32 (pu .u8 (JE (Ji (List.take (64 + text.length) (List.take 64 a ++ text)))))).length) 1 && true then
    bif Jh .u8 (List.take (64 + (List.take 32 (pu .u8 (JE (Ji (List.take (64 + text.length) (List.take 64 a ++ text)))))).length) (List.take 64 b ++ List.take 32 (pu .u8 (JE (Ji (List.take (64 + text.length) (List.take 64 a ++ text)))))))
      && decide ((List.take (64 + (List.take 32 (pu .u8 (JE (Ji (List.take (64 + text.length) (List.take 64 a ++ text)))))).length) (List.take 64 b ++ List.take 32 (pu .u8 (JE (Ji (List.take (64 + text.length) (List.take 64 a ++ text))))))).length <= 140737488355000) then
     k ⟨.ar 37 (pu .u8 (JE (Ji (List.take (64 + (List.take 32 (pu .u8 (JE (Ji (List.take (64 + text.length) (List.take 64 a ++ text)))))).length) (List.take 64 b ++ List.take 32 (pu .u8 (JE (Ji (List.take (64 + text.length) (List.take 64 a ++ text)))))))))), [], []⟩
    else none
   else none
  else none
 else none
theorem Jn2 (f : Nat) (kz kf : Bool) (key : List PV) (tz tf : Bool) (text : List PV) (k : Res -> Option Res) : g36 f kz kf key tz tf text k =
 (bif decide (zi key.length > 64) then
  bif Jh .u8 key && decide (key.length <= 140737488355000) then
   Xo f (fun _ _ t _ a b => Vg a b t k) f tz tf text 0 (pu .u8 (List.replicate 32 0)) (kbG (List.take 32 (pu .u8 (JE (Ji key))))) (pu .u8 (List.replicate 64 0)) (pu .u8 (List.replicate 64 0))
  else none
 else Xo f (fun _ _ t _ a b => Vg a b t k) f tz tf text 0 (pu .u8 (List.replicate 32 0)) (kbG key) (pu .u8 (List.replicate 64 0)) (pu .u8 (List.replicate 64 0))) := by kernel_rfl
theorem JiN (K T : List Int) (hK : K.length = 64) (hT : T.length <= 1000000000) (k : Res -> Option Res) :
  Vg (pu .u8 (JV K 54)) (pu .u8 (JV K 92)) (pu .u8 T) k = k ⟨.ar 37 (pu .u8 (JE (JV K 92 ++ JE (JV K 54 ++ T)))), [], []⟩ := by
 have e1 : List.take (64 + (pu .u8 T).length) (List.take 64 (pu .u8 (JV K 54)) ++ pu .u8 T) = pu .u8 (JV K 54 ++ T) := by
  rw [List.take_of_length_le (i := 64) (by simp [hK]), List.take_of_length_le (by simp [hK]), ← JU]
 have e2 : ∀ l : List Int, List.take 32 (pu .u8 (JE l)) = pu .u8 (JE l) := fun l => List.take_of_length_le (by simp [J8])
 have e3 : ∀ l : List Int, List.take (64 + (pu .u8 (JE l)).length) (List.take 64 (pu .u8 (JV K 92)) ++ pu .u8 (JE l)) = pu .u8 (JV K 92 ++ JE l) := fun l => by
  rw [List.take_of_length_le (i := 64) (by simp [hK]), List.take_of_length_le (by simp [hK]), ← JU]
 unfold Vg
 rw [e1, e2, e3, Jb (by simp [Jl]; omega), Jb (by rw [JO, JJ]; simp [hK]; omega), Jb (by simp [Jl, J8]), Jb (by rw [JO, JJ]; simp [hK, J8])]
 simp only [QW]
def JiO : List PV -> List Ent -> (Res -> Option Res) -> Option Res
 | [.ro 5 kz kf key, .ro 5 tz tf text], [], k =>
  bif (Jh .u8 key && decide (key.length <= 1000000000)) && (Jh .u8 text && decide (text.length <= 1000000000)) then
   k ⟨.ar 37 (pu .u8 (Q9 (Ji key) (Ji text))), [], []⟩ else none
 | _, _, _ => none
def JwJ : Sig := { own := [], run := JiO }
theorem JwK (kz kf : Bool) (key : List PV) (tz tf : Bool) (text : List PV) (k : Res -> Option Res) (a1 : Jh .u8 key = true) (a2 : key.length <= 1000000000) (h3 : Jh .u8 text = true) (h4 : text.length <= 1000000000) :
   g36 70 kz kf key tz tf text k = k ⟨.ar 37 (pu .u8 (Q9 (Ji key) (Ji text))), [], []⟩ := by
 rw [Jn2, Jbr, Jgv]
 have hi := Qc a1
 have ht := Qc h3
 have hL : ∀ K : List Int, K.length = 64 -> Xo 70 (fun _ _ t _ a b => Vg a b t k) 70 tz tf text 0 (pu .u8 (List.replicate 32 0)) (pu .u8 K) (pu .u8 (List.replicate 64 0)) (pu .u8 (List.replicate 64 0)) = k ⟨.ar 37 (pu .u8 (JE (JV K 92 ++ JE (JV K 54 ++ Ji text)))), [], []⟩ := by
   intro K hK
   have := JtW K hK 70 (fun _ _ t _ a b => Vg a b t k) tz tf text (pu .u8 (List.replicate 32 0)) 64 0 70 (by omega) (by omega)
   rw [QH, QH] at this
   refine this.trans ?_
   have hm := JiN K (Ji text) hK (by simpa using h4) k
   rw [← ht] at hm
   exact hm
 by_cases hc : key.length > 64
 · rw [Jb (by simp [zi]; omega), Jb (by simp [a1]; omega), List.take_of_length_le (by simp [J8]), JeK _ (by rw [J8]; omega),
    hL _ (by rw [← XE (Ji key), GA, if_pos (by simpa using hc)]), GA, if_pos (by simpa using hc)]
 · have hl : (Ji key).length <= 64 := by simp; omega
   rw [Jv (by simp [zi]; omega), hi, JeK _ hl, QW, hL _ (by rw [← XE (Ji key), GA, if_neg (by omega)]), GA, if_neg (by omega)]
theorem JtX : Jf tau Try.prog 36 JwJ := Jf.mk' fun xs es k res hl hr => by
 change JiO xs es k = some res at hr
 unfold JiO at hr
 split at hr
 · rename_i kz kf key tz tf text
   obtain ⟨hc, hr⟩ := JG hr
   simp only [Bool.and_eq_true, decide_eq_true_eq] at hc
   obtain ⟨⟨a1, a2⟩, h3, h4⟩ := hc
   exact Qj Jq Jn1 Jr JCE JCF (Jra (Jcy 70)) [.ro] 0 0 (JF2 70) hl rfl ((e36 70 kz kf key tz tf text k).trans ((JwK kz kf key tz tf text k a1 a2 h3 h4).trans hr))
 · cases hr
def F48 : Fns := JC 53 JA5 (JC 36 JwJ (F0))
theorem JwL : Ju tau Try.prog F48 := ((JB).add JtX JCG).add JA6 JFa
def Jrc : An := (.seq .leaf (.seq .leaf (.seq .leaf .leaf)))
def g48 (f : Nat) (k0_z k0_f : Bool) (k0 : List PV) (k1_z k1_f : Bool) (k1 : List PV) (k2_z k2_f : Bool) (k2 : List PV) (y0 y1 d_Id y2 : Int) (y3 : List PV) (y4 : Int) (y5 y6 : Bool) (d_Op : List PV) (y7 y8 : Int) (k : Res -> Option Res) : Option Res := bif dOk (DV.mk y0 y1 d_Id y2 y3 y4 d_Op y7 y8) then bif decide (0 <= y0) && decide (y0 < zi 3) && true then bif PV.isRo 5 (Jm (PV.st 31 [.ro 5 k0_z k0_f k0, .ro 5 k1_z k1_f k1, .ro 5 k2_z k2_f k2]) [y0.toNat]) && true then bif Jh IntKind.u8 (Jm (PV.st 31 [.ro 5 k0_z k0_f k0, .ro 5 k1_z k1_f k1, .ro 5 k2_z k2_f k2]) [y0.toNat]).els && decide ((Jm (PV.st 31 [.ro 5 k0_z k0_f k0, .ro 5 k1_z k1_f k1, .ro 5 k2_z k2_f k2]) [y0.toNat]).els.length <= 1000000000) && (Jh IntKind.u8 (List.take (dlB (DV.mk y0 y1 d_Id y2 y3 y4 d_Op y7 y8)).length (pu IntKind.u8 (dlB (DV.mk y0 y1 d_Id y2 y3 y4 d_Op y7 y8)))) && decide ((List.take (dlB (DV.mk y0 y1 d_Id y2 y3 y4 d_Op y7 y8)).length (pu IntKind.u8 (dlB (DV.mk y0 y1 d_Id y2 y3 y4 d_Op y7 y8)))).length <= 1000000000)) then k (Res.mk (.st 77 [.ro 5 false false (List.take (dlB (DV.mk y0 y1 d_Id y2 y3 y4 d_Op y7 y8)).length (pu IntKind.u8 (dlB (DV.mk y0 y1 d_Id y2 y3 y4 d_Op y7 y8)))), .ar 37 (pu IntKind.u8 (Q9 (Ji (Jm (PV.st 31 [.ro 5 k0_z k0_f k0, .ro 5 k1_z k1_f k1, .ro 5 k2_z k2_f k2]) [y0.toNat]).els) (Ji (List.take (dlB (DV.mk y0 y1 d_Id y2 y3 y4 d_Op y7 y8)).length (pu IntKind.u8 (dlB (DV.mk y0 y1 d_Id y2 y3 y4 d_Op y7 y8)))))))]) [] []) else none else none else none else none
theorem e48 (f : Nat) (k0_z k0_f : Bool) (k0 : List PV) (k1_z k1_f : Bool) (k1 : List PV) (k2_z k2_f : Bool) (k2 : List PV) (y0 y1 d_Id y2 : Int) (y3 : List PV) (y4 : Int) (y5 y6 : Bool) (d_Op : List PV) (y7 y8 : Int) (k : Res -> Option Res) : JN tau F48 Try.f48 (Try.f48.body.get!) Jrc [.ro] 0 [.st 31 [.ro 5 k0_z k0_f k0, .ro 5 k1_z k1_f k1, .ro 5 k2_z k2_f k2], .st 73 [.st 45 [.sc (.int .i64 y0), .sc (.int .i64 y1)], .sc (.int .i64 d_Id), .sc (.int .i64 y2), .ar 37 y3, .sc (.int .i64 y4), .ro 99 y5 y6 d_Op, .st 45 [.sc (.int .i64 y7), .sc (.int .i64 y8)]]] [] k = g48 f k0_z k0_f k0 k1_z k1_f k1 k2_z k2_f k2 y0 y1 d_Id y2 y3 y4 y5 y6 d_Op y7 y8 k := by kernel_rfl
theorem JF3 (f : Nat) : Je (Try.f48.body.get!) Jrc = [] := by kernel_rfl
theorem JF4 (f : Nat) : ∀ q ∈ Je (Try.f48.body.get!) Jrc, q.Ok tau Try.prog 0 := by
 rw [JF3 f]; intro q hq; cases hq
theorem JCH : Try.prog.funcs[48]? = some Try.f48 := by kernel_rfl
theorem JCI : Try.f48.body = some (Try.f48.body.get!) := by kernel_rfl
theorem JF5 : Enters Try.prog 48 := enters_of JCH (by kernel_rfl) JCI
def Jn3 : List PV -> List Ent -> (Res -> Option Res) -> Option Res
 | [.st 31 [.ro 5 k0_z k0_f k0, .ro 5 k1_z k1_f k1, .ro 5 k2_z k2_f k2], .st 73 [.st 45 [.sc (.int .i64 y0), .sc (.int .i64 y1)], .sc (.int .i64 d_Id), .sc (.int .i64 y2), .ar 37 y3, .sc (.int .i64 y4), .ro 99 y5 y6 d_Op, .st 45 [.sc (.int .i64 y7), .sc (.int .i64 y8)]]], [], k => g48 0 k0_z k0_f k0 k1_z k1_f k1 k2_z k2_f k2 y0 y1 d_Id y2 y3 y4 y5 y6 d_Op y7 y8 k
 | _, _, _ => none
def s48 : Sig := { own := [], run := Jn3 }
theorem JF6 : Jf tau Try.prog 48 s48 := JP Jq JwL Jr JCH JCI Jrc [.ro] 0 [] Jn3 (JF4 0) fun xs es k res hr => by
 unfold Jn3 at hr
 split at hr
 · exact ⟨rfl, 0, (e48 0 _ _ _ _ _ _ _ _ _ _ _ _ _ _ _ _ _ _ _ _  _).trans hr⟩
 · cases hr
def F51 : Fns := JC 52 JCe (JC 36 JwJ (F0))
theorem JwM : Ju tau Try.prog F51 := ((JB).add JtX JCG).add JCf JFL
def Jrd : An := (.seq .leaf (.seq .leaf (.seq (.seq .leaf (.cond (.seq .leaf .leaf) .leaf)) (.seq (.seq .leaf (.cond (.seq .leaf .leaf) .leaf)) (.seq .leaf .leaf)))))
def g51 (f : Nat) (k0_z k0_f : Bool) (k0 : List PV) (k1_z k1_f : Bool) (k1 : List PV) (k2_z k2_f : Bool) (k2 : List PV) (y0 y1 : Bool) (y2 y3 : List PV) (k : Res -> Option Res) : Option Res := bif byB y2 && y2.length.ble 1000000000 then bif dE y2 != 0 then k (Res.mk (.tup [.st 73 [.st 45 [.sc (.int .i64 0), .sc (.int .i64 0)], .sc (.int .i64 0), .sc (.int .i64 0), .ar 37 [.sc (.int .u8 0), .sc (.int .u8 0), .sc (.int .u8 0), .sc (.int .u8 0), .sc (.int .u8 0), .sc (.int .u8 0), .sc (.int .u8 0), .sc (.int .u8 0), .sc (.int .u8 0), .sc (.int .u8 0), .sc (.int .u8 0), .sc (.int .u8 0), .sc (.int .u8 0), .sc (.int .u8 0), .sc (.int .u8 0), .sc (.int .u8 0), .sc (.int .u8 0), .sc (.int .u8 0), .sc (.int .u8 0), .sc (.int .u8 0), .sc (.int .u8 0), .sc (.int .u8 0), .sc (.int .u8 0), .sc (.int .u8 0), .sc (.int .u8 0), .sc (.int .u8 0), .sc (.int .u8 0), .sc (.int .u8 0), .sc (.int .u8 0), .sc (.int .u8 0), .sc (.int .u8 0), .sc (.int .u8 0)], .sc (.int .i64 0), .ro 99 true true [], .st 45 [.sc (.int .i64 0), .sc (.int .i64 0)]], .sc (.int .i64 (dE y2))]) [] []) else bif decide (0 <= dF 0 y2) && decide (dF 0 y2 < zi 3) && true then bif PV.isRo 5 (Jm (PV.st 31 [.ro 5 k0_z k0_f k0, .ro 5 k1_z k1_f k1, .ro 5 k2_z k2_f k2]) [(dF 0 y2).toNat]) && true then bif Jh IntKind.u8 (Jm (PV.st 31 [.ro 5 k0_z k0_f k0, .ro 5 k1_z k1_f k1, .ro 5 k2_z k2_f k2]) [(dF 0 y2).toNat]).els && decide ((Jm (PV.st 31 [.ro 5 k0_z k0_f k0, .ro 5 k1_z k1_f k1, .ro 5 k2_z k2_f k2]) [(dF 0 y2).toNat]).els.length <= 1000000000) && (Jh IntKind.u8 y2 && decide (y2.length <= 1000000000)) then bif decide (y3.length = 32) && decide ((pu IntKind.u8 (Q9 (Ji (Jm (PV.st 31 [.ro 5 k0_z k0_f k0, .ro 5 k1_z k1_f k1, .ro 5 k2_z k2_f k2]) [(dF 0 y2).toNat]).els) (Ji y2))).length = 32) && Jh IntKind.u8 y3 && Jh IntKind.u8 (pu IntKind.u8 (Q9 (Ji (Jm (PV.st 31 [.ro 5 k0_z k0_f k0, .ro 5 k1_z k1_f k1, .ro 5 k2_z k2_f k2]) [(dF 0 y2).toNat]).els) (Ji y2))) && true then bif !Ql y3 (pu IntKind.u8 (Q9 (Ji (Jm (PV.st 31 [.ro 5 k0_z k0_f k0, .ro 5 k1_z k1_f k1, .ro 5 k2_z k2_f k2]) [(dF 0 y2).toNat]).els) (Ji y2))) then k (Res.mk (.tup [.st 73 [.st 45 [.sc (.int .i64 0), .sc (.int .i64 0)], .sc (.int .i64 0), .sc (.int .i64 0), .ar 37 [.sc (.int .u8 0), .sc (.int .u8 0), .sc (.int .u8 0), .sc (.int .u8 0), .sc (.int .u8 0), .sc (.int .u8 0), .sc (.int .u8 0), .sc (.int .u8 0), .sc (.int .u8 0), .sc (.int .u8 0), .sc (.int .u8 0), .sc (.int .u8 0), .sc (.int .u8 0), .sc (.int .u8 0), .sc (.int .u8 0), .sc (.int .u8 0), .sc (.int .u8 0), .sc (.int .u8 0), .sc (.int .u8 0), .sc (.int .u8 0), .sc (.int .u8 0), .sc (.int .u8 0), .sc (.int .u8 0), .sc (.int .u8 0), .sc (.int .u8 0), .sc (.int .u8 0), .sc (.int .u8 0), .sc (.int .u8 0), .sc (.int .u8 0), .sc (.int .u8 0), .sc (.int .u8 0), .sc (.int .u8 0)], .sc (.int .i64 0), .ro 99 true true [], .st 45 [.sc (.int .i64 0), .sc (.int .i64 0)]], .sc (.int .i64 14)]) [] []) else k (Res.mk (.tup [.st 73 [.st 45 [.sc (.int .i64 (dF 0 y2)), .sc (.int .i64 (dF 1 y2))], .sc (.int .i64 (dF 2 y2)), .sc (.int .i64 (dF 3 y2)), .ar 37 (pu IntKind.u8 (dH y2)), .sc (.int .i64 (dF 4 y2)), .ro 99 (dO y2).isEmpty (dOF y2) (dO y2), .st 45 [.sc (.int .i64 (dF 5 y2)), .sc (.int .i64 (dF 6 y2))]], .sc (.int .i64 0)]) [] []) else none else none else none else none else none
theorem e51 (f : Nat) (k0_z k0_f : Bool) (k0 : List PV) (k1_z k1_f : Bool) (k1 : List PV) (k2_z k2_f : Bool) (k2 : List PV) (y0 y1 : Bool) (y2 y3 : List PV) (k : Res -> Option Res) : JN tau F51 Try.f51 (Try.f51.body.get!) Jrd [.ro, .ro] 0 [.st 31 [.ro 5 k0_z k0_f k0, .ro 5 k1_z k1_f k1, .ro 5 k2_z k2_f k2], .st 77 [.ro 5 y0 y1 y2, .ar 37 y3]] [] k = g51 f k0_z k0_f k0 k1_z k1_f k1 k2_z k2_f k2 y0 y1 y2 y3 k := by kernel_rfl
theorem JF7 (f : Nat) : Je (Try.f51.body.get!) Jrd = [] := by kernel_rfl
theorem JF8 (f : Nat) : ∀ q ∈ Je (Try.f51.body.get!) Jrd, q.Ok tau Try.prog 0 := by
 rw [JF7 f]; intro q hq; cases hq
theorem JCJ : Try.prog.funcs[51]? = some Try.f51 := by kernel_rfl
theorem JCK : Try.f51.body = some (Try.f51.body.get!) := by kernel_rfl
theorem JF9 : Enters Try.prog 51 := enters_of JCJ (by kernel_rfl) JCK
def Jn4 : List PV -> List Ent -> (Res -> Option Res) -> Option Res
 | [.st 31 [.ro 5 k0_z k0_f k0, .ro 5 k1_z k1_f k1, .ro 5 k2_z k2_f k2], .st 77 [.ro 5 y0 y1 y2, .ar 37 y3]], [], k => g51 0 k0_z k0_f k0 k1_z k1_f k1 k2_z k2_f k2 y0 y1 y2 y3 k
 | _, _, _ => none
def s51 : Sig := { own := [], run := Jn4 }
theorem JGa : Jf tau Try.prog 51 s51 := JP Jq JwM Jr JCJ JCK Jrd [.ro, .ro] 0 [] Jn4 (JF8 0) fun xs es k res hr => by
 unfold Jn4 at hr
 split at hr
 · exact ⟨rfl, 0, (e51 0 _ _ _ _ _ _ _ _ _ _ _ _ _  _).trans hr⟩
 · cases hr

-- FN
theorem EntRep.free_none {τ : Tab} {im : Im} {ow : Own} {i : Nat} {e : Ent} {w : World} (he : EntRep τ im ow i e w) (hf : e.free = true) {l : Loc} {b : Nat} (hl : ow i = some l) (hb : l.blk = some b) : im b = none := by
 obtain ⟨loc, h1, h2⟩ := he
 obtain rfl : loc = l := Option.some.inj (h1.symm.trans hl)
 cases e with
 | dead => cases hf
 | box fz t v =>
  obtain ⟨k1, k2, b', cells, el, fr, pre, mid, post, q1, q2, q3, q4, q5, q6, q7, q8⟩ := h2
  have : fz = false := by cases fz with | true => cases hf | false => rfl
  obtain rfl : b = b' := Option.some.inj (hb.symm.trans q1)
  exact q8.1 this
 | vec fz t nl els =>
  obtain ⟨k1, k2, k3⟩ := h2
  have : fz = false := by cases fz with | true => cases hf | false => rfl
  rcases k3 with k3 | ⟨_, b', cells, el, fr, pre, mid, post, q1, q2, q3, q4, q5, q6, q7, q8⟩
  · rw [k3.1] at hb; cases hb
  · obtain rfl : b = b' := Option.some.inj (hb.symm.trans q1)
    exact q8.1 this
theorem Jf.dead {τ : Tab} {P : Program} {g : FuncId} {sg : Sig} (h : Jf τ P g sg) :
   Jf τ P g { own := sg.own, run := fun xs es k => sg.run xs es fun r => bif r.news.isEmpty && decide (r.pars.length <= 15) then k ⟨r.val, r.pars, [.dead]⟩ else none } := by
 intro xs es k res hl hrun
 obtain ⟨r, hk, H⟩ := h xs es _ res hl hrun
 obtain ⟨hn, hk'⟩ := JG hk
 rw [Bool.and_eq_true, decide_eq_true_eq] at hn
 refine ⟨⟨r.val, r.pars, [.dead]⟩, hk', fun im ow w us hx hi => (H im ow w us hx hi).mono fun e w' hp => ?_⟩
 obtain ⟨u, im', ow', h1, h2, G⟩ := hp
 have hn0 : r.news = [] := List.isEmpty_iff.1 hn.1
 rw [hn0] at G
 have e16 : JL r.pars [] 16 = none := rfl
 have d16 : JL r.pars [.dead] 16 = some .dead := rfl
 have same : ∀ i, i ≠ 16 -> JL r.pars [.dead] i = JL r.pars [] i := by
   intro i hi
   unfold JL
   by_cases h16 : i < 16
   · rw [if_pos h16, if_pos h16]
   · rw [if_neg h16, if_neg h16]
     obtain ⟨m, hm⟩ : ∃ m, i - 16 = m + 1 := ⟨i - 17, by omega⟩
     rw [hm]; rfl
 have o16 : ow' 16 = none := by
   cases ho : ow' 16 with
   | none => rfl
   | some l =>
     obtain ⟨e, he⟩ := G.inv.dom 16 l ho
     rw [e16] at he; cases he
 let ow2 : Own := QN ow' 16 ⟨none, 0, .box 0, 0⟩
 have t16 : ow2 16 = some ⟨none, 0, .box 0, 0⟩ := if_pos rfl
 have tne : ∀ i, i ≠ 16 -> ow2 i = ow' i := fun i hi => if_neg hi
 have how : ∀ i l, ow' i = some l -> ow2 i = some l := by
   intro i l hil
   by_cases h16 : i = 16
   · subst h16; rw [o16] at hil; cases hil
   · rw [tne i h16]; exact hil
 have live : ∀ i b, Live (JL r.pars [.dead]) ow2 i b -> Live (JL r.pars []) ow' i b := by
   rintro i b ⟨e, l, q1, q2, q3, q4⟩
   by_cases h16 : i = 16
   · subst h16; rw [d16] at q1; obtain rfl := Option.some.inj q1; cases q2
   · exact ⟨e, l, by rw [← same i h16]; exact q1, q2, by rw [← tne i h16]; exact q3, q4⟩
 refine ⟨u, im', ow2, h1, Jg.mono (fun _ _ h => h) how _ _ h2, ⟨G.imX, fun i l hil => how i l (G.owX i l hil), ⟨G.inv.imOk, ?_, ?_, ?_⟩, G.size, G.keep, G.newim, fun i b hb => G.newlive i b (live i b hb), G.rest⟩⟩
 · intro i e he
   by_cases h16 : i = 16
   · subst h16; rw [d16] at he; obtain rfl := Option.some.inj he; exact ⟨_, t16, trivial⟩
   · rw [same i h16] at he
     have q := G.inv.ent i e he
     exact EntRep.keep (fun _ _ h => h) how (fun _ _ _ _ _ => rfl) (fun hf l b hl hb => q.free_none hf hl hb) q
 · intro i j b hi hj
   exact G.inv.inj i j b (live i b hi) (live j b hj)
 · intro i l hil
   by_cases h16 : i = 16
   · subst h16; exact ⟨_, d16⟩
   · rw [tne i h16] at hil
     obtain ⟨e, he⟩ := G.inv.dom i l hil
     exact ⟨e, by rw [same i h16]; exact he⟩


-- FN sign.Delta | sign.Open | sign.Entry | sign.Check | ref9.Delta | ref9.Open | ref9.Next | ref9.Entry | ref9.Check
def h32 : List PV -> Bool := hid fun h => Jh .u8 h && decide (h.length = 32)
theorem h32_iff {h : List PV} : h32 h = true ↔ Jh .u8 h = true /\ h.length = 32 := by rw [h32, hid_eq, Bool.and_eq_true, decide_eq_true_eq]
def kO3 : List PV -> Bool := hid fun l => l.all fun p => kOk p.els
theorem Jfn {z0 f0 z1 f1 z2 f2 : Bool} {k0 k1 k2 : List PV} : kO3 [.ro 5 z0 f0 k0, .ro 5 z1 f1 k1, .ro 5 z2 f2 k2] = true ↔ kOk k0 = true /\ kOk k1 = true /\ kOk k2 = true := by
 rw [kO3, hid_eq]; simp [PV.els]
structure MK where
 (l : List PV) (d : Int) (t : List Int)
def mcK : MK -> List Int := hid fun m => Q9 (Ji (QS ⟨m.l, m.d⟩)) m.t
theorem V1 (m : MK) : mcK m = Q9 (Ji (QS ⟨m.l, m.d⟩)) m.t := by rw [mcK, hid_eq]
theorem V2 (m : MK) : (mcK m).length = 32 := by rw [V1]; exact ZD _ _
structure NX where
 (p : List PV) (e : EV)
structure EM where
 (l : List PV) (d : Int) (e : EV) (h : List PV)
def emP : EM -> List Int := hid fun x => mcK ⟨x.l, x.d, WL x.e ++ Ji x.h⟩
theorem JiP (x : EM) : emP x = mcK ⟨x.l, x.d, WL x.e ++ Ji x.h⟩ := by rw [emP, hid_eq]
theorem JiQ (x : EM) : (emP x).length = 32 := by rw [JiP]; exact V2 _
structure EC where
 (l : List PV) (d : Int) (e : EV) (h m : List PV)
def emC : EC -> Bool := hid fun x => kIn x.d && (emP ⟨x.l, x.d, x.e, x.h⟩ == Ji x.m)
theorem Jn5 (x : EC) : emC x = (kIn x.d && (emP ⟨x.l, x.d, x.e, x.h⟩ == Ji x.m)) := by rw [emC, hid_eq]
structure SO where
 (l b m : List PV)
def W9 (x : SO) : Int := bif dE x.b == 0 then (bif kIn (dF 0 x.b) && (mcK ⟨x.l, dF 0 x.b, Ji x.b⟩ == Ji x.m) then 0 else 14) else dE x.b
def soE : SO -> Int := hid W9
def soF : Nat -> SO -> Int := hid fun i x => bif W9 x == 0 then dF i x.b else 0
def soH : SO -> List Int := hid fun x => bif W9 x == 0 then dH x.b else List.replicate 32 0
def soO : SO -> List PV := hid fun x => bif W9 x == 0 then dO x.b else []
def JwN : SO -> Bool := hid fun x => !(W9 x == 0)
theorem JaB (x : SO) : soE x = W9 x := by rw [soE, hid_eq]
theorem JaC (i : Nat) (x : SO) : soF i x = bif W9 x == 0 then dF i x.b else 0 := by rw [soF, hid_eq]
theorem JaD (x : SO) : soH x = bif W9 x == 0 then dH x.b else List.replicate 32 0 := by rw [soH, hid_eq]
theorem JaE (x : SO) : soO x = bif W9 x == 0 then dO x.b else [] := by rw [soO, hid_eq]
theorem JkM (x : SO) : JwN x = !(W9 x == 0) := by rw [JwN, hid_eq]
def soP (x : SO) : PV := .tup [.st 73 [.st 45 [.sc (.int .i64 (soF 0 x)), .sc (.int .i64 (soF 1 x))], .sc (.int .i64 (soF 2 x)), .sc (.int .i64 (soF 3 x)), .ar 37 (pu .u8 (soH x)), .sc (.int .i64 (soF 4 x)), .ro 99 (soO x).isEmpty (soO x).isEmpty (soO x), .st 45 [.sc (.int .i64 (soF 5 x)), .sc (.int .i64 (soF 6 x))]], .sc (.int .i64 (soE x))]
def soQ (x : SO) : PV := .tup [.st 73 [.st 45 [.sc (.int .i64 (soF 0 x)), .sc (.int .i64 (soF 1 x))], .sc (.int .i64 (soF 2 x)), .sc (.int .i64 (soF 3 x)), .ar 37 (pu .u8 (soH x)), .sc (.int .i64 (soF 4 x)), .ro 99 (soO x).isEmpty (JwN x) (soO x), .st 45 [.sc (.int .i64 (soF 5 x)), .sc (.int .i64 (soF 6 x))]], .sc (.int .i64 (soE x))]
theorem JkN {x : SO} {e : Int} (h : W9 x = e) (h0 : (e == 0) = false) : soP x = Ja4 e := by
 simp only [soP, Ja4, JaC, JaD, JaE, JaB, h, h0, cond_false, List.isEmpty_nil]
theorem JkO {x : SO} {e : Int} (h : W9 x = e) (h0 : (e == 0) = false) : soQ x = Ja4 e := by
 simp only [soQ, Ja4, JaC, JaD, JaE, JaB, JkM, h, h0, cond_false, List.isEmpty_nil, Bool.not_false]
theorem JwO {x : SO} (h : W9 x = 0) : soP x = .tup [.st 73 [.st 45 [.sc (.int .i64 (dF 0 x.b)), .sc (.int .i64 (dF 1 x.b))], .sc (.int .i64 (dF 2 x.b)), .sc (.int .i64 (dF 3 x.b)), .ar 37 (pu .u8 (dH x.b)), .sc (.int .i64 (dF 4 x.b)), .ro 99 (dO x.b).isEmpty (dO x.b).isEmpty (dO x.b), .st 45 [.sc (.int .i64 (dF 5 x.b)), .sc (.int .i64 (dF 6 x.b))]], .sc (.int .i64 0)] := by
 simp only [soP, JaC, JaD, JaE, JaB, h, beq_self_eq_true, cond_true]
theorem JwP {x : SO} (h : W9 x = 0) : soQ x = .tup [.st 73 [.st 45 [.sc (.int .i64 (dF 0 x.b)), .sc (.int .i64 (dF 1 x.b))], .sc (.int .i64 (dF 2 x.b)), .sc (.int .i64 (dF 3 x.b)), .ar 37 (pu .u8 (dH x.b)), .sc (.int .i64 (dF 4 x.b)), .ro 99 (dO x.b).isEmpty false (dO x.b), .st 45 [.sc (.int .i64 (dF 5 x.b)), .sc (.int .i64 (dF 6 x.b))]], .sc (.int .i64 0)] := by
 simp only [soQ, JaC, JaD, JaE, JaB, JkM, h, beq_self_eq_true, cond_true, Bool.not_true]
theorem fl1 (z f : Bool) (l : List PV) : Jo [.ro 5 z f l] = l := by simp [PV.els]
theorem fl2 (z f z' f' : Bool) (l l' : List PV) : Jo [.ro 5 z f l, .ro 5 z' f' l'] = l ++ l' := by simp [PV.els]
theorem JgU {a b : List PV} (h : Jh .u8 a = true) (h' : Jh .u8 b = true) : Jh .u8 (a ++ b) = true := by
 induction a with
 | nil => exact h'
 | cons p ps ih =>
  have e : ∀ l : List PV, Jh .u8 (p :: l) = (p.isInt .u8 && Jh .u8 l) := fun l => rfl
  rw [e, Bool.and_eq_true] at h
  rw [List.cons_append, e, Bool.and_eq_true]; exact ⟨h.1, ih h.2⟩
theorem JlA (a b : List PV) : Ji (a ++ b) = Ji a ++ Ji b := by simp [Ji]
theorem Jn6 {z0 f0 z1 f1 z2 f2 : Bool} {k0 k1 k2 : List PV} (h : kO3 [.ro 5 z0 f0 k0, .ro 5 z1 f1 k1, .ro 5 z2 f2 k2] = true) {d : Int} (hd : QR d 2 = true) :
  PV.isRo 5 (Jm (PV.st 31 [.ro 5 z0 f0 k0, .ro 5 z1 f1 k1, .ro 5 z2 f2 k2]) [d.toNat]) = true /\ (Jm (PV.st 31 [.ro 5 z0 f0 k0, .ro 5 z1 f1 k1, .ro 5 z2 f2 k2]) [d.toNat]).els = QS ⟨[.ro 5 z0 f0 k0, .ro 5 z1 f1 k1, .ro 5 z2 f2 k2], d⟩ := by
 rw [Jbq, Xm, hd]
 simp only [QR, Bool.and_eq_true, decide_eq_true_eq] at hd
 have : d = 0 ∨ d = 1 ∨ d = 2 := by omega
 rcases this with rfl | rfl | rfl <;> exact ⟨rfl, rfl⟩
theorem Jcz {z0 f0 z1 f1 z2 f2 : Bool} {k0 k1 k2 : List PV} (h : kO3 [.ro 5 z0 f0 k0, .ro 5 z1 f1 k1, .ro 5 z2 f2 k2] = true) (d : Int) : Jh .u8 (QS ⟨[.ro 5 z0 f0 k0, .ro 5 z1 f1 k1, .ro 5 z2 f2 k2], d⟩) = true /\ (QS ⟨[.ro 5 z0 f0 k0, .ro 5 z1 f1 k1, .ro 5 z2 f2 k2], d⟩).length <= 1000000000 := by
 obtain ⟨a, b, c⟩ := Jfn.1 h
 have := JpT (z0 := z0) (f0 := f0) (z1 := z1) (f1 := f1) (z2 := z2) (f2 := f2) a b c d
 rw [kOk, Bool.and_eq_true, decide_eq_true_eq] at this; exact this
theorem Vh {d : DV} (h : dOk d = true) : (dlB d).length <= 65618 := by rw [VO h]; have := (W5.1 h).2.2.2; omega
theorem JgV {e : EV} (h : eOk e = true) : (WL e).length <= 131114 := by rw [GM h]; have := GL.1 h; omega
theorem JtY {b : List PV} (h : dE b = 0) : QR (dF 0 b) 2 = true := by
 rw [Ja3] at h
 rw [JdH, h]
 show QR (dv b).ad 2 = true
 have hq := h
 unfold dE0 at hq
 cases he : ((d9 b).e == 0) with
 | false => rw [he, cond_false] at hq; rw [hq] at he; cases he
 | true =>
  rw [he, cond_true] at hq
  cases h9 : decide ((d9 b).b.length > 0) with
  | true => rw [h9, cond_true] at hq; exact absurd hq (by decide)
  | false =>
   rw [h9, cond_false] at hq
   cases ho : (opE (dt b) == 0) with
   | false => rw [ho, cond_false] at hq; rw [hq] at ho; cases ho
   | true =>
    rw [ho, cond_true, Jaz] at hq
    unfold JiH at hq
    cases hi : inZ (dv b).ad 2 with
    | true => exact hi
    | false => rw [hi, Bool.false_and, cond_false] at hq; exact absurd hq (by decide)
/-! sign.Delta, ref9.Delta -/
def JiR : List PV -> List Ent -> (Res -> Option Res) -> Option Res
 | [.st 31 [.ro 5 z0 f0 k0, .ro 5 z1 f1 k1, .ro 5 z2 f2 k2], .st 73 [.st 45 [.sc (.int .i64 ad), .sc (.int .i64 au)], .sc (.int .i64 id1), .sc (.int .i64 ve), .ar 37 h, .sc (.int .i64 kd), .ro 99 oz of o, .st 45 [.sc (.int .i64 wd), .sc (.int .i64 wu)]]], [], k =>
  bif dOk ⟨ad, au, id1, ve, h, kd, o, wd, wu⟩ && kO3 [.ro 5 z0 f0 k0, .ro 5 z1 f1 k1, .ro 5 z2 f2 k2] then
   k ⟨.st 77 [.ro 5 false false (pu .u8 (dlB ⟨ad, au, id1, ve, h, kd, o, wd, wu⟩)), .ar 37 (pu .u8 (mcK ⟨[.ro 5 z0 f0 k0, .ro 5 z1 f1 k1, .ro 5 z2 f2 k2], ad, dlB ⟨ad, au, id1, ve, h, kd, o, wd, wu⟩⟩))], [], []⟩ else none
 | _, _, _ => none
def JwQ : Sig := { own := [], run := JiR }
theorem JtZ : Jf tau Try.prog 46 JwQ := JFi.of fun xs es k res hr => by
 change JiR xs es k = some res at hr
 unfold JiR at hr
 split at hr
 · rename_i z0 f0 k0 z1 f1 k1 z2 f2 k2 ad au id1 ve h kd oz of o wd wu
   obtain ⟨hc, hr⟩ := JG hr
   rw [Bool.and_eq_true] at hc
   have hK := Jcz hc.2 ad
   have hs := Vh hc.1
   refine Eq.trans ?_ hr
   show g46 0 z0 f0 k0 z1 f1 k1 z2 f2 k2 ad au id1 ve h kd oz of o wd wu k = _
   unfold g46
   simp only [fl1, JO, QW, JJ]
   refine (Jb hc.1).trans ((Jb (by rw [hK.1]; simp; omega)).trans ?_)
   rw [V1]
 · cases hr
def JiS : List PV -> List Ent -> (Res -> Option Res) -> Option Res
 | [.st 31 [.ro 5 z0 f0 k0, .ro 5 z1 f1 k1, .ro 5 z2 f2 k2], .st 73 [.st 45 [.sc (.int .i64 ad), .sc (.int .i64 au)], .sc (.int .i64 id1), .sc (.int .i64 ve), .ar 37 h, .sc (.int .i64 kd), .ro 99 oz of o, .st 45 [.sc (.int .i64 wd), .sc (.int .i64 wu)]]], [], k =>
  bif dOk ⟨ad, au, id1, ve, h, kd, o, wd, wu⟩ && (kO3 [.ro 5 z0 f0 k0, .ro 5 z1 f1 k1, .ro 5 z2 f2 k2] && kIn ad) then
   k ⟨.st 77 [.ro 5 false false (pu .u8 (dlB ⟨ad, au, id1, ve, h, kd, o, wd, wu⟩)), .ar 37 (pu .u8 (mcK ⟨[.ro 5 z0 f0 k0, .ro 5 z1 f1 k1, .ro 5 z2 f2 k2], ad, dlB ⟨ad, au, id1, ve, h, kd, o, wd, wu⟩⟩))], [], []⟩ else none
 | _, _, _ => none
def JCL : Sig := { own := [], run := JiS }
theorem JCM : Jf tau Try.prog 48 JCL := JF6.of fun xs es k res hr => by
 change JiS xs es k = some res at hr
 unfold JiS at hr
 split at hr
 · rename_i z0 f0 k0 z1 f1 k1 z2 f2 k2 ad au id1 ve h kd oz of o wd wu
   obtain ⟨hc, hr⟩ := JG hr
   simp only [Bool.and_eq_true] at hc
   have hK := Jcz hc.2.1 ad
   have hs := Vh hc.1
   have hin := hc.2.2
   rw [Jau] at hin
   obtain ⟨q1, q2⟩ := Jn6 hc.2.1 hin
   have htp : ∀ l : List Int, List.take l.length (pu .u8 l) = pu .u8 l := fun l => List.take_of_length_le (by simp)
   simp only [QR, Bool.and_eq_true, decide_eq_true_eq] at hin
   refine Eq.trans ?_ hr
   show g48 0 z0 f0 k0 z1 f1 k1 z2 f2 k2 ad au id1 ve h kd oz of o wd wu k = _
   unfold g48
   simp only [q2, htp, JO, QW, JJ]
   refine (Jb hc.1).trans ((Jb (by simp [zi]; omega)).trans ((Jb (by rw [q1]; rfl)).trans ((Jb (by rw [hK.1]; simp; omega)).trans ?_)))
   rw [V1]
 · cases hr
/-! sign.Open, ref9.Open -/
def JiT : List PV -> List Ent -> (Res -> Option Res) -> Option Res
 | [.st 31 [.ro 5 z0 f0 k0, .ro 5 z1 f1 k1, .ro 5 z2 f2 k2], .st 77 [.ro 5 z f b, .ar 37 m]], [], k =>
  bif (slB z b && byB b) && (h32 m && kO3 [.ro 5 z0 f0 k0, .ro 5 z1 f1 k1, .ro 5 z2 f2 k2]) then
   k ⟨soP ⟨[.ro 5 z0 f0 k0, .ro 5 z1 f1 k1, .ro 5 z2 f2 k2], b, m⟩, [], []⟩ else none
 | _, _, _ => none
def JwR : Sig := { own := [], run := JiT }
theorem Jt0 : Jf tau Try.prog 49 JwR := JFP.of fun xs es k res hr => by
 change JiT xs es k = some res at hr
 unfold JiT at hr
 split at hr
 · rename_i z0 f0 k0 z1 f1 k1 z2 f2 k2 z f b m
   obtain ⟨hc, hr⟩ := JG hr
   simp only [Bool.and_eq_true] at hc
   have hK := Jcz hc.2.2 (dF 0 b)
   obtain ⟨m1, m2⟩ := h32_iff.1 hc.2.1
   have hsl := (Wd.1 hc.1.1).2
   have hab := (Qo.1 hc.1.2).1
   refine Eq.trans ?_ hr
   show g49 0 z0 f0 k0 z1 f1 k1 z2 f2 k2 z f b m k = _
   generalize hx : SO.mk [.ro 5 z0 f0 k0, .ro 5 z1 f1 k1, .ro 5 z2 f2 k2] b m = x
   have hxb : x.b = b := by rw [← hx]
   have hE : W9 x = W9 x := rfl
   conv at hE => rhs; unfold W9
   rw [hxb] at hE
   unfold g49
   simp only [fl1]
   refine (Jb (by rw [hc.1.1, hc.1.2]; rfl)).trans ?_
   cases he : (dE b == 0) with
   | false =>
    rw [he, cond_false] at hE
    rw [JkN hE he]
    exact Jb (by rw [bne, he]; rfl)
   | true =>
    rw [he, cond_true] at hE
    have hi := JtY (show dE b = 0 by simpa using he)
    have hk : kIn (dF 0 b) = true := by rw [Jau]; exact hi
    rw [hk, Bool.true_and] at hE
    refine (Jv (by rw [bne, he]; rfl)).trans ((Jv (by rw [hk]; rfl)).trans ((Jb (by rw [hK.1, hab]; simp; omega)).trans ((Jb (by rw [JO, m1]; simp [ZD, m2])).trans ?_)))
    have hmm : mcK ⟨x.l, dF 0 b, Ji b⟩ = Q9 (Ji (QS ⟨[.ro 5 z0 f0 k0, .ro 5 z1 f1 k1, .ro 5 z2 f2 k2], dF 0 b⟩)) (Ji b) := by rw [V1, ← hx]
    have hxm : x.m = m := by rw [← hx]
    rw [hxm, hmm] at hE
    have hq : Ql (pu .u8 (Q9 (Ji (QS ⟨[.ro 5 z0 f0 k0, .ro 5 z1 f1 k1, .ro 5 z2 f2 k2], dF 0 b⟩)) (Ji b))) m = (Q9 (Ji (QS ⟨[.ro 5 z0 f0 k0, .ro 5 z1 f1 k1, .ro 5 z2 f2 k2], dF 0 b⟩)) (Ji b) == Ji m) := by
     conv => lhs; rw [show m = pu .u8 (Ji m) from (Qc m1)]
     exact Xd _ _ _
    rw [hq]
    cases hm : (Q9 (Ji (QS ⟨[.ro 5 z0 f0 k0, .ro 5 z1 f1 k1, .ro 5 z2 f2 k2], dF 0 b⟩)) (Ji b) == Ji m) with
    | false =>
     rw [hm, cond_false] at hE
     rw [JkN hE (by decide)]
     rfl
    | true =>
     rw [hm, cond_true] at hE
     rw [JwO hE, hxb]
     rfl
 · cases hr
def JiU : List PV -> List Ent -> (Res -> Option Res) -> Option Res
 | [.st 31 [.ro 5 z0 f0 k0, .ro 5 z1 f1 k1, .ro 5 z2 f2 k2], .st 77 [.ro 5 z f b, .ar 37 m]], [], k =>
  bif (byB b && Nat.ble b.length 1000000000) && (h32 m && kO3 [.ro 5 z0 f0 k0, .ro 5 z1 f1 k1, .ro 5 z2 f2 k2]) then
   k ⟨soQ ⟨[.ro 5 z0 f0 k0, .ro 5 z1 f1 k1, .ro 5 z2 f2 k2], b, m⟩, [], []⟩ else none
 | _, _, _ => none
def JCN : Sig := { own := [], run := JiU }
theorem JCO : Jf tau Try.prog 51 JCN := JGa.of fun xs es k res hr => by
 change JiU xs es k = some res at hr
 unfold JiU at hr
 split at hr
 · rename_i z0 f0 k0 z1 f1 k1 z2 f2 k2 z f b m
   obtain ⟨hc, hr⟩ := JG hr
   simp only [Bool.and_eq_true, Nat.ble_eq] at hc
   have hK := Jcz hc.2.2 (dF 0 b)
   obtain ⟨m1, m2⟩ := h32_iff.1 hc.2.1
   have hab := (Qo.1 hc.1.1).1
   refine Eq.trans ?_ hr
   show g51 0 z0 f0 k0 z1 f1 k1 z2 f2 k2 z f b m k = _
   generalize hx : SO.mk [.ro 5 z0 f0 k0, .ro 5 z1 f1 k1, .ro 5 z2 f2 k2] b m = x
   have hxb : x.b = b := by rw [← hx]
   have hE : W9 x = W9 x := rfl
   conv at hE => rhs; unfold W9
   rw [hxb] at hE
   unfold g51
   refine (Jb (by rw [hc.1.1, Bool.true_and, Nat.ble_eq]; exact hc.1.2)).trans ?_
   cases he : (dE b == 0) with
   | false =>
    rw [he, cond_false] at hE
    rw [JkO hE he]
    exact Jb (by rw [bne, he]; rfl)
   | true =>
    rw [he, cond_true] at hE
    have hi := JtY (show dE b = 0 by simpa using he)
    have hk : kIn (dF 0 b) = true := by rw [Jau]; exact hi
    obtain ⟨q1, q2⟩ := Jn6 hc.2.2 hi
    rw [hk, Bool.true_and] at hE
    have hdo : dOF b = false := by rw [JiK, ← Ja3, he]; rfl
    simp only [QR, Bool.and_eq_true, decide_eq_true_eq] at hi
    simp only [q2]
    refine (Jv (by rw [bne, he]; rfl)).trans ((Jb (by simp [zi]; omega)).trans ((Jb (by rw [q1]; rfl)).trans ((Jb (by rw [hK.1, hab]; simp; omega)).trans ((Jb (by rw [JO, m1]; simp [ZD, m2])).trans ?_))))
    have hmm : mcK ⟨x.l, dF 0 b, Ji b⟩ = Q9 (Ji (QS ⟨[.ro 5 z0 f0 k0, .ro 5 z1 f1 k1, .ro 5 z2 f2 k2], dF 0 b⟩)) (Ji b) := by rw [V1, ← hx]
    have hxm : x.m = m := by rw [← hx]
    rw [hxm, hmm] at hE
    have hq : Ql m (pu .u8 (Q9 (Ji (QS ⟨[.ro 5 z0 f0 k0, .ro 5 z1 f1 k1, .ro 5 z2 f2 k2], dF 0 b⟩)) (Ji b))) = (Q9 (Ji (QS ⟨[.ro 5 z0 f0 k0, .ro 5 z1 f1 k1, .ro 5 z2 f2 k2], dF 0 b⟩)) (Ji b) == Ji m) := by
     conv => lhs; rw [show m = pu .u8 (Ji m) from (Qc m1)]
     rw [Xd]; exact BEq.comm
    rw [hq]
    cases hm : (Q9 (Ji (QS ⟨[.ro 5 z0 f0 k0, .ro 5 z1 f1 k1, .ro 5 z2 f2 k2], dF 0 b⟩)) (Ji b) == Ji m) with
    | false =>
     rw [hm, cond_false] at hE
     rw [JkO hE (by decide)]
     rfl
    | true =>
     rw [hm, cond_true] at hE
     rw [JwP hE, hxb, hdo]
     rfl
 · cases hr
/-! entries -/
def JiV : List PV -> List Ent -> (Res -> Option Res) -> Option Res
 | [.st 31 [.ro 5 z0 f0 k0, .ro 5 z1 f1 k1, .ro 5 z2 f2 k2], .sc (.int .i64 ho), .st 93 [.st 77 [.ro 5 z f b, .ar 37 m], .sc (.int .i64 at1), .ro 99 oz of o, .ar 37 h, .ar 37 mc]], [], k =>
  bif eOk ⟨b, m, at1, o⟩ && (h32 h && (h32 mc && kO3 [.ro 5 z0 f0 k0, .ro 5 z1 f1 k1, .ro 5 z2 f2 k2])) then
   k ⟨.sc (.bool (emC ⟨[.ro 5 z0 f0 k0, .ro 5 z1 f1 k1, .ro 5 z2 f2 k2], ho, ⟨b, m, at1, o⟩, h, mc⟩)), [], []⟩ else none
 | _, _, _ => none
def JCP : Sig := { own := [], run := JiV }
theorem JCQ : Jf tau Try.prog 60 JCP := JFT.of fun xs es k res hr => by
 change JiV xs es k = some res at hr
 unfold JiV at hr
 split at hr
 · rename_i z0 f0 k0 z1 f1 k1 z2 f2 k2 ho z f b m at1 oz of o h mc
   obtain ⟨hc, hr⟩ := JG hr
   simp only [Bool.and_eq_true] at hc
   obtain ⟨c1, c2, c3, c4⟩ := hc
   have hK := Jcz c4 ho
   obtain ⟨p1, p2⟩ := h32_iff.1 c2
   obtain ⟨m1, m2⟩ := h32_iff.1 c3
   have hcl := JgV c1
   have hth : List.take 32 h = h := List.take_of_length_le (by omega)
   have hem : Q9 (Ji (QS ⟨[.ro 5 z0 f0 k0, .ro 5 z1 f1 k1, .ro 5 z2 f2 k2], ho⟩)) (WL ⟨b, m, at1, o⟩ ++ Ji h) = emP ⟨[.ro 5 z0 f0 k0, .ro 5 z1 f1 k1, .ro 5 z2 f2 k2], ho, ⟨b, m, at1, o⟩, h⟩ := by rw [JiP, V1]
   have hq : ∀ l : List Int, Ql (pu .u8 l) mc = (l == Ji mc) := fun l => by
    conv => lhs; rw [show mc = pu .u8 (Ji mc) from (Qc m1)]
    exact Xd _ _ _
   rw [Jn5] at hr
   refine Eq.trans ?_ hr
   show g60 0 z0 f0 k0 z1 f1 k1 z2 f2 k2 ho z f b m at1 oz of o h mc k = _
   unfold g60
   cases kIn ho with
   | false => rfl
   | true =>
    simp only [fl2, hth, JlA, QW, hem, hq, JO]
    refine (Jb rfl).trans ((Jb c1).trans ((Jb (by rw [hK.1, JgU (JO _ _) p1]; simp; omega)).trans ((Jb (by rw [m1]; simp [JiQ, m2])).trans ?_)))
    rfl
 · cases hr
def F42 : Fns := JC 60 JCP (JC 49 JwR (JC 46 JwQ (JC 21 JvE (F0))))
theorem JwS : Ju tau Try.prog F42 := ((((JB).add JsR Jxv).add JtZ JBd).add Jt0 JCi).add JCQ JFS
def Jre : An := (.seq .leaf (.seq .leaf (.seq .leaf (.seq .leaf (.seq .leaf .leaf)))))
def g42 (f : Nat) (k : Res -> Option Res) : Option Res := bif dOk (DV.mk 0 0 0 0 [.sc (.int .u8 0), .sc (.int .u8 0), .sc (.int .u8 0), .sc (.int .u8 0), .sc (.int .u8 0), .sc (.int .u8 0), .sc (.int .u8 0), .sc (.int .u8 0), .sc (.int .u8 0), .sc (.int .u8 0), .sc (.int .u8 0), .sc (.int .u8 0), .sc (.int .u8 0), .sc (.int .u8 0), .sc (.int .u8 0), .sc (.int .u8 0), .sc (.int .u8 0), .sc (.int .u8 0), .sc (.int .u8 0), .sc (.int .u8 0), .sc (.int .u8 0), .sc (.int .u8 0), .sc (.int .u8 0), .sc (.int .u8 0), .sc (.int .u8 0), .sc (.int .u8 0), .sc (.int .u8 0), .sc (.int .u8 0), .sc (.int .u8 0), .sc (.int .u8 0), .sc (.int .u8 0), .sc (.int .u8 0)] 2 [] 0 0) && kO3 [.ro 5 false false (kb 0 []), .ro 5 false false (kb 1 []), .ro 5 false false (kb 2 [])] then bif slB false (pu IntKind.u8 (dlB (DV.mk 0 0 0 0 [.sc (.int .u8 0), .sc (.int .u8 0), .sc (.int .u8 0), .sc (.int .u8 0), .sc (.int .u8 0), .sc (.int .u8 0), .sc (.int .u8 0), .sc (.int .u8 0), .sc (.int .u8 0), .sc (.int .u8 0), .sc (.int .u8 0), .sc (.int .u8 0), .sc (.int .u8 0), .sc (.int .u8 0), .sc (.int .u8 0), .sc (.int .u8 0), .sc (.int .u8 0), .sc (.int .u8 0), .sc (.int .u8 0), .sc (.int .u8 0), .sc (.int .u8 0), .sc (.int .u8 0), .sc (.int .u8 0), .sc (.int .u8 0), .sc (.int .u8 0), .sc (.int .u8 0), .sc (.int .u8 0), .sc (.int .u8 0), .sc (.int .u8 0), .sc (.int .u8 0), .sc (.int .u8 0), .sc (.int .u8 0)] 2 [] 0 0))) && byB (pu IntKind.u8 (dlB (DV.mk 0 0 0 0 [.sc (.int .u8 0), .sc (.int .u8 0), .sc (.int .u8 0), .sc (.int .u8 0), .sc (.int .u8 0), .sc (.int .u8 0), .sc (.int .u8 0), .sc (.int .u8 0), .sc (.int .u8 0), .sc (.int .u8 0), .sc (.int .u8 0), .sc (.int .u8 0), .sc (.int .u8 0), .sc (.int .u8 0), .sc (.int .u8 0), .sc (.int .u8 0), .sc (.int .u8 0), .sc (.int .u8 0), .sc (.int .u8 0), .sc (.int .u8 0), .sc (.int .u8 0), .sc (.int .u8 0), .sc (.int .u8 0), .sc (.int .u8 0), .sc (.int .u8 0), .sc (.int .u8 0), .sc (.int .u8 0), .sc (.int .u8 0), .sc (.int .u8 0), .sc (.int .u8 0), .sc (.int .u8 0), .sc (.int .u8 0)] 2 [] 0 0))) && (h32 (pu IntKind.u8 (mcK (MK.mk [.ro 5 false false (kb 0 []), .ro 5 false false (kb 1 []), .ro 5 false false (kb 2 [])] 0 (dlB (DV.mk 0 0 0 0 [.sc (.int .u8 0), .sc (.int .u8 0), .sc (.int .u8 0), .sc (.int .u8 0), .sc (.int .u8 0), .sc (.int .u8 0), .sc (.int .u8 0), .sc (.int .u8 0), .sc (.int .u8 0), .sc (.int .u8 0), .sc (.int .u8 0), .sc (.int .u8 0), .sc (.int .u8 0), .sc (.int .u8 0), .sc (.int .u8 0), .sc (.int .u8 0), .sc (.int .u8 0), .sc (.int .u8 0), .sc (.int .u8 0), .sc (.int .u8 0), .sc (.int .u8 0), .sc (.int .u8 0), .sc (.int .u8 0), .sc (.int .u8 0), .sc (.int .u8 0), .sc (.int .u8 0), .sc (.int .u8 0), .sc (.int .u8 0), .sc (.int .u8 0), .sc (.int .u8 0), .sc (.int .u8 0), .sc (.int .u8 0)] 2 [] 0 0))))) && kO3 [.ro 5 false false (kb 0 []), .ro 5 false false (kb 1 []), .ro 5 false false (kb 2 [])]) then bif soE (SO.mk [.ro 5 false false (kb 0 []), .ro 5 false false (kb 1 []), .ro 5 false false (kb 2 [])] (pu IntKind.u8 (dlB (DV.mk 0 0 0 0 [.sc (.int .u8 0), .sc (.int .u8 0), .sc (.int .u8 0), .sc (.int .u8 0), .sc (.int .u8 0), .sc (.int .u8 0), .sc (.int .u8 0), .sc (.int .u8 0), .sc (.int .u8 0), .sc (.int .u8 0), .sc (.int .u8 0), .sc (.int .u8 0), .sc (.int .u8 0), .sc (.int .u8 0), .sc (.int .u8 0), .sc (.int .u8 0), .sc (.int .u8 0), .sc (.int .u8 0), .sc (.int .u8 0), .sc (.int .u8 0), .sc (.int .u8 0), .sc (.int .u8 0), .sc (.int .u8 0), .sc (.int .u8 0), .sc (.int .u8 0), .sc (.int .u8 0), .sc (.int .u8 0), .sc (.int .u8 0), .sc (.int .u8 0), .sc (.int .u8 0), .sc (.int .u8 0), .sc (.int .u8 0)] 2 [] 0 0))) (pu IntKind.u8 (mcK (MK.mk [.ro 5 false false (kb 0 []), .ro 5 false false (kb 1 []), .ro 5 false false (kb 2 [])] 0 (dlB (DV.mk 0 0 0 0 [.sc (.int .u8 0), .sc (.int .u8 0), .sc (.int .u8 0), .sc (.int .u8 0), .sc (.int .u8 0), .sc (.int .u8 0), .sc (.int .u8 0), .sc (.int .u8 0), .sc (.int .u8 0), .sc (.int .u8 0), .sc (.int .u8 0), .sc (.int .u8 0), .sc (.int .u8 0), .sc (.int .u8 0), .sc (.int .u8 0), .sc (.int .u8 0), .sc (.int .u8 0), .sc (.int .u8 0), .sc (.int .u8 0), .sc (.int .u8 0), .sc (.int .u8 0), .sc (.int .u8 0), .sc (.int .u8 0), .sc (.int .u8 0), .sc (.int .u8 0), .sc (.int .u8 0), .sc (.int .u8 0), .sc (.int .u8 0), .sc (.int .u8 0), .sc (.int .u8 0), .sc (.int .u8 0), .sc (.int .u8 0)] 2 [] 0 0)))))) == 0 then bif soF 4 (SO.mk [.ro 5 false false (kb 0 []), .ro 5 false false (kb 1 []), .ro 5 false false (kb 2 [])] (pu IntKind.u8 (dlB (DV.mk 0 0 0 0 [.sc (.int .u8 0), .sc (.int .u8 0), .sc (.int .u8 0), .sc (.int .u8 0), .sc (.int .u8 0), .sc (.int .u8 0), .sc (.int .u8 0), .sc (.int .u8 0), .sc (.int .u8 0), .sc (.int .u8 0), .sc (.int .u8 0), .sc (.int .u8 0), .sc (.int .u8 0), .sc (.int .u8 0), .sc (.int .u8 0), .sc (.int .u8 0), .sc (.int .u8 0), .sc (.int .u8 0), .sc (.int .u8 0), .sc (.int .u8 0), .sc (.int .u8 0), .sc (.int .u8 0), .sc (.int .u8 0), .sc (.int .u8 0), .sc (.int .u8 0), .sc (.int .u8 0), .sc (.int .u8 0), .sc (.int .u8 0), .sc (.int .u8 0), .sc (.int .u8 0), .sc (.int .u8 0), .sc (.int .u8 0)] 2 [] 0 0))) (pu IntKind.u8 (mcK (MK.mk [.ro 5 false false (kb 0 []), .ro 5 false false (kb 1 []), .ro 5 false false (kb 2 [])] 0 (dlB (DV.mk 0 0 0 0 [.sc (.int .u8 0), .sc (.int .u8 0), .sc (.int .u8 0), .sc (.int .u8 0), .sc (.int .u8 0), .sc (.int .u8 0), .sc (.int .u8 0), .sc (.int .u8 0), .sc (.int .u8 0), .sc (.int .u8 0), .sc (.int .u8 0), .sc (.int .u8 0), .sc (.int .u8 0), .sc (.int .u8 0), .sc (.int .u8 0), .sc (.int .u8 0), .sc (.int .u8 0), .sc (.int .u8 0), .sc (.int .u8 0), .sc (.int .u8 0), .sc (.int .u8 0), .sc (.int .u8 0), .sc (.int .u8 0), .sc (.int .u8 0), .sc (.int .u8 0), .sc (.int .u8 0), .sc (.int .u8 0), .sc (.int .u8 0), .sc (.int .u8 0), .sc (.int .u8 0), .sc (.int .u8 0), .sc (.int .u8 0)] 2 [] 0 0)))))) == 2 then bif eOk (EV.mk [] [.sc (.int .u8 0), .sc (.int .u8 0), .sc (.int .u8 0), .sc (.int .u8 0), .sc (.int .u8 0), .sc (.int .u8 0), .sc (.int .u8 0), .sc (.int .u8 0), .sc (.int .u8 0), .sc (.int .u8 0), .sc (.int .u8 0), .sc (.int .u8 0), .sc (.int .u8 0), .sc (.int .u8 0), .sc (.int .u8 0), .sc (.int .u8 0), .sc (.int .u8 0), .sc (.int .u8 0), .sc (.int .u8 0), .sc (.int .u8 0), .sc (.int .u8 0), .sc (.int .u8 0), .sc (.int .u8 0), .sc (.int .u8 0), .sc (.int .u8 0), .sc (.int .u8 0), .sc (.int .u8 0), .sc (.int .u8 0), .sc (.int .u8 0), .sc (.int .u8 0), .sc (.int .u8 0), .sc (.int .u8 0)] 0 []) && (h32 [.sc (.int .u8 0), .sc (.int .u8 0), .sc (.int .u8 0), .sc (.int .u8 0), .sc (.int .u8 0), .sc (.int .u8 0), .sc (.int .u8 0), .sc (.int .u8 0), .sc (.int .u8 0), .sc (.int .u8 0), .sc (.int .u8 0), .sc (.int .u8 0), .sc (.int .u8 0), .sc (.int .u8 0), .sc (.int .u8 0), .sc (.int .u8 0), .sc (.int .u8 0), .sc (.int .u8 0), .sc (.int .u8 0), .sc (.int .u8 0), .sc (.int .u8 0), .sc (.int .u8 0), .sc (.int .u8 0), .sc (.int .u8 0), .sc (.int .u8 0), .sc (.int .u8 0), .sc (.int .u8 0), .sc (.int .u8 0), .sc (.int .u8 0), .sc (.int .u8 0), .sc (.int .u8 0), .sc (.int .u8 0)] && (h32 [.sc (.int .u8 0), .sc (.int .u8 0), .sc (.int .u8 0), .sc (.int .u8 0), .sc (.int .u8 0), .sc (.int .u8 0), .sc (.int .u8 0), .sc (.int .u8 0), .sc (.int .u8 0), .sc (.int .u8 0), .sc (.int .u8 0), .sc (.int .u8 0), .sc (.int .u8 0), .sc (.int .u8 0), .sc (.int .u8 0), .sc (.int .u8 0), .sc (.int .u8 0), .sc (.int .u8 0), .sc (.int .u8 0), .sc (.int .u8 0), .sc (.int .u8 0), .sc (.int .u8 0), .sc (.int .u8 0), .sc (.int .u8 0), .sc (.int .u8 0), .sc (.int .u8 0), .sc (.int .u8 0), .sc (.int .u8 0), .sc (.int .u8 0), .sc (.int .u8 0), .sc (.int .u8 0), .sc (.int .u8 0)] && kO3 [.ro 5 false false (kb 0 []), .ro 5 false false (kb 1 []), .ro 5 false false (kb 2 [])])) then k (Res.mk (.sc (.bool !emC (EC.mk [.ro 5 false false (kb 0 []), .ro 5 false false (kb 1 []), .ro 5 false false (kb 2 [])] 0 (EV.mk [] [.sc (.int .u8 0), .sc (.int .u8 0), .sc (.int .u8 0), .sc (.int .u8 0), .sc (.int .u8 0), .sc (.int .u8 0), .sc (.int .u8 0), .sc (.int .u8 0), .sc (.int .u8 0), .sc (.int .u8 0), .sc (.int .u8 0), .sc (.int .u8 0), .sc (.int .u8 0), .sc (.int .u8 0), .sc (.int .u8 0), .sc (.int .u8 0), .sc (.int .u8 0), .sc (.int .u8 0), .sc (.int .u8 0), .sc (.int .u8 0), .sc (.int .u8 0), .sc (.int .u8 0), .sc (.int .u8 0), .sc (.int .u8 0), .sc (.int .u8 0), .sc (.int .u8 0), .sc (.int .u8 0), .sc (.int .u8 0), .sc (.int .u8 0), .sc (.int .u8 0), .sc (.int .u8 0), .sc (.int .u8 0)] 0 []) [.sc (.int .u8 0), .sc (.int .u8 0), .sc (.int .u8 0), .sc (.int .u8 0), .sc (.int .u8 0), .sc (.int .u8 0), .sc (.int .u8 0), .sc (.int .u8 0), .sc (.int .u8 0), .sc (.int .u8 0), .sc (.int .u8 0), .sc (.int .u8 0), .sc (.int .u8 0), .sc (.int .u8 0), .sc (.int .u8 0), .sc (.int .u8 0), .sc (.int .u8 0), .sc (.int .u8 0), .sc (.int .u8 0), .sc (.int .u8 0), .sc (.int .u8 0), .sc (.int .u8 0), .sc (.int .u8 0), .sc (.int .u8 0), .sc (.int .u8 0), .sc (.int .u8 0), .sc (.int .u8 0), .sc (.int .u8 0), .sc (.int .u8 0), .sc (.int .u8 0), .sc (.int .u8 0), .sc (.int .u8 0)] [.sc (.int .u8 0), .sc (.int .u8 0), .sc (.int .u8 0), .sc (.int .u8 0), .sc (.int .u8 0), .sc (.int .u8 0), .sc (.int .u8 0), .sc (.int .u8 0), .sc (.int .u8 0), .sc (.int .u8 0), .sc (.int .u8 0), .sc (.int .u8 0), .sc (.int .u8 0), .sc (.int .u8 0), .sc (.int .u8 0), .sc (.int .u8 0), .sc (.int .u8 0), .sc (.int .u8 0), .sc (.int .u8 0), .sc (.int .u8 0), .sc (.int .u8 0), .sc (.int .u8 0), .sc (.int .u8 0), .sc (.int .u8 0), .sc (.int .u8 0), .sc (.int .u8 0), .sc (.int .u8 0), .sc (.int .u8 0), .sc (.int .u8 0), .sc (.int .u8 0), .sc (.int .u8 0), .sc (.int .u8 0)]))) [] []) else none else k (Res.mk (.sc (.bool false)) [] []) else k (Res.mk (.sc (.bool false)) [] []) else none else none
theorem e42 (f : Nat) (k : Res -> Option Res) : JN tau F42 Try.f42 (Try.f42.body.get!) Jre [.ro] 0 [] [] k = g42 f k := by kernel_rfl
theorem JGb (f : Nat) : Je (Try.f42.body.get!) Jre = [] := by kernel_rfl
theorem JGc (f : Nat) : ∀ q ∈ Je (Try.f42.body.get!) Jre, q.Ok tau Try.prog 0 := by
 rw [JGb f]; intro q hq; cases hq
theorem JCR : Try.prog.funcs[42]? = some Try.f42 := by kernel_rfl
theorem JCS : Try.f42.body = some (Try.f42.body.get!) := by kernel_rfl
theorem JGd : Enters Try.prog 42 := enters_of JCR (by kernel_rfl) JCS
def Jn7 : List PV -> List Ent -> (Res -> Option Res) -> Option Res
 | [], [], k => g42 0  k
 | _, _, _ => none
def s42 : Sig := { own := [], run := Jn7 }
theorem JGe : Jf tau Try.prog 42 s42 := JP Jq JwS Jr JCR JCS Jre [.ro] 0 [] Jn7 (JGc 0) fun xs es k res hr => by
 unfold Jn7 at hr
 split at hr
 · exact ⟨rfl, 0, (e42 0  _).trans hr⟩
 · cases hr
end
end Go.Proofs.Ytcklhipdldpkhaa.Rx
