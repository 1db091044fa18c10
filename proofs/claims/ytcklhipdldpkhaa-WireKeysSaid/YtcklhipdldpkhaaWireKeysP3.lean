/- What the functions of this law compute, and their plain laws. Conditions: none. -/
import Derived.KernelRfl
import Derived.Test.YtcklhipdldpkhaaWireKeysP2
/- What comitia/hmac.Mac computes. Own work, printed by a program of the worker's own. -/
namespace Go.Proofs.Ytcklhipdldpkhaa.Rx
open Go
set_option linter.unusedVariables false
set_option maxRecDepth 100000
set_option maxHeartbeats 0
noncomputable def F80 : Fns := addF 141 s141' (addF 140 s140' (addF 136 s136 (addF 27 s27' (F0))))
theorem F80_ok : FnsOk tau Try.prog F80 := ((((F0_ok).add ok27' en27).add ok136 en136).add ok140' en140).add ok141' en141
def an80 : An := (.seq .leaf (.seq (.seq .leaf (.cond (.seq .leaf .leaf) .leaf)) (.seq .leaf (.seq .leaf (.seq .leaf (.seq .leaf .leaf))))))
noncomputable def g80 (f : Nat) (key_z : Bool) (key_f : Bool) (key : List PV) (parts_z : Bool) (parts_f : Bool) (parts : List PV) (k : Res → Option Res) : Option Res := bif decide (zi key.length > 64) then bif allInt IntKind.u8 (flat [PV.ro 5 key_z key_f key]) && decide ((flat [PV.ro 5 key_z key_f key]).length ≤ 140737488355000) then bif parts_z then bif allInt IntKind.u8 (List.take 64 (List.take 32 (pu IntKind.u8 (sumP (ints (flat [PV.ro 5 key_z key_f key]))))) ++ List.drop (0 + min (List.take 32 (pu IntKind.u8 (sumP (ints (flat [PV.ro 5 key_z key_f key]))))).length 64) [PV.sc (.int .u8 0), PV.sc (.int .u8 0), PV.sc (.int .u8 0), PV.sc (.int .u8 0), PV.sc (.int .u8 0), PV.sc (.int .u8 0), PV.sc (.int .u8 0), PV.sc (.int .u8 0), PV.sc (.int .u8 0), PV.sc (.int .u8 0), PV.sc (.int .u8 0), PV.sc (.int .u8 0), PV.sc (.int .u8 0), PV.sc (.int .u8 0), PV.sc (.int .u8 0), PV.sc (.int .u8 0), PV.sc (.int .u8 0), PV.sc (.int .u8 0), PV.sc (.int .u8 0), PV.sc (.int .u8 0), PV.sc (.int .u8 0), PV.sc (.int .u8 0), PV.sc (.int .u8 0), PV.sc (.int .u8 0), PV.sc (.int .u8 0), PV.sc (.int .u8 0), PV.sc (.int .u8 0), PV.sc (.int .u8 0), PV.sc (.int .u8 0), PV.sc (.int .u8 0), PV.sc (.int .u8 0), PV.sc (.int .u8 0), PV.sc (.int .u8 0), PV.sc (.int .u8 0), PV.sc (.int .u8 0), PV.sc (.int .u8 0), PV.sc (.int .u8 0), PV.sc (.int .u8 0), PV.sc (.int .u8 0), PV.sc (.int .u8 0), PV.sc (.int .u8 0), PV.sc (.int .u8 0), PV.sc (.int .u8 0), PV.sc (.int .u8 0), PV.sc (.int .u8 0), PV.sc (.int .u8 0), PV.sc (.int .u8 0), PV.sc (.int .u8 0), PV.sc (.int .u8 0), PV.sc (.int .u8 0), PV.sc (.int .u8 0), PV.sc (.int .u8 0), PV.sc (.int .u8 0), PV.sc (.int .u8 0), PV.sc (.int .u8 0), PV.sc (.int .u8 0), PV.sc (.int .u8 0), PV.sc (.int .u8 0), PV.sc (.int .u8 0), PV.sc (.int .u8 0), PV.sc (.int .u8 0), PV.sc (.int .u8 0), PV.sc (.int .u8 0), PV.sc (.int .u8 0)]) && decide ((List.take 64 (List.take 32 (pu IntKind.u8 (sumP (ints (flat [PV.ro 5 key_z key_f key]))))) ++ List.drop (0 + min (List.take 32 (pu IntKind.u8 (sumP (ints (flat [PV.ro 5 key_z key_f key]))))).length 64) [PV.sc (.int .u8 0), PV.sc (.int .u8 0), PV.sc (.int .u8 0), PV.sc (.int .u8 0), PV.sc (.int .u8 0), PV.sc (.int .u8 0), PV.sc (.int .u8 0), PV.sc (.int .u8 0), PV.sc (.int .u8 0), PV.sc (.int .u8 0), PV.sc (.int .u8 0), PV.sc (.int .u8 0), PV.sc (.int .u8 0), PV.sc (.int .u8 0), PV.sc (.int .u8 0), PV.sc (.int .u8 0), PV.sc (.int .u8 0), PV.sc (.int .u8 0), PV.sc (.int .u8 0), PV.sc (.int .u8 0), PV.sc (.int .u8 0), PV.sc (.int .u8 0), PV.sc (.int .u8 0), PV.sc (.int .u8 0), PV.sc (.int .u8 0), PV.sc (.int .u8 0), PV.sc (.int .u8 0), PV.sc (.int .u8 0), PV.sc (.int .u8 0), PV.sc (.int .u8 0), PV.sc (.int .u8 0), PV.sc (.int .u8 0), PV.sc (.int .u8 0), PV.sc (.int .u8 0), PV.sc (.int .u8 0), PV.sc (.int .u8 0), PV.sc (.int .u8 0), PV.sc (.int .u8 0), PV.sc (.int .u8 0), PV.sc (.int .u8 0), PV.sc (.int .u8 0), PV.sc (.int .u8 0), PV.sc (.int .u8 0), PV.sc (.int .u8 0), PV.sc (.int .u8 0), PV.sc (.int .u8 0), PV.sc (.int .u8 0), PV.sc (.int .u8 0), PV.sc (.int .u8 0), PV.sc (.int .u8 0), PV.sc (.int .u8 0), PV.sc (.int .u8 0), PV.sc (.int .u8 0), PV.sc (.int .u8 0), PV.sc (.int .u8 0), PV.sc (.int .u8 0), PV.sc (.int .u8 0), PV.sc (.int .u8 0), PV.sc (.int .u8 0), PV.sc (.int .u8 0), PV.sc (.int .u8 0), PV.sc (.int .u8 0), PV.sc (.int .u8 0), PV.sc (.int .u8 0)]).length = 64) && true then bif allInt IntKind.u8 (flat [PV.ro 5 false false (pu IntKind.u8 (xorB (ints (List.take 64 (List.take 32 (pu IntKind.u8 (sumP (ints (flat [PV.ro 5 key_z key_f key]))))) ++ List.drop (0 + min (List.take 32 (pu IntKind.u8 (sumP (ints (flat [PV.ro 5 key_z key_f key]))))).length 64) [PV.sc (.int .u8 0), PV.sc (.int .u8 0), PV.sc (.int .u8 0), PV.sc (.int .u8 0), PV.sc (.int .u8 0), PV.sc (.int .u8 0), PV.sc (.int .u8 0), PV.sc (.int .u8 0), PV.sc (.int .u8 0), PV.sc (.int .u8 0), PV.sc (.int .u8 0), PV.sc (.int .u8 0), PV.sc (.int .u8 0), PV.sc (.int .u8 0), PV.sc (.int .u8 0), PV.sc (.int .u8 0), PV.sc (.int .u8 0), PV.sc (.int .u8 0), PV.sc (.int .u8 0), PV.sc (.int .u8 0), PV.sc (.int .u8 0), PV.sc (.int .u8 0), PV.sc (.int .u8 0), PV.sc (.int .u8 0), PV.sc (.int .u8 0), PV.sc (.int .u8 0), PV.sc (.int .u8 0), PV.sc (.int .u8 0), PV.sc (.int .u8 0), PV.sc (.int .u8 0), PV.sc (.int .u8 0), PV.sc (.int .u8 0), PV.sc (.int .u8 0), PV.sc (.int .u8 0), PV.sc (.int .u8 0), PV.sc (.int .u8 0), PV.sc (.int .u8 0), PV.sc (.int .u8 0), PV.sc (.int .u8 0), PV.sc (.int .u8 0), PV.sc (.int .u8 0), PV.sc (.int .u8 0), PV.sc (.int .u8 0), PV.sc (.int .u8 0), PV.sc (.int .u8 0), PV.sc (.int .u8 0), PV.sc (.int .u8 0), PV.sc (.int .u8 0), PV.sc (.int .u8 0), PV.sc (.int .u8 0), PV.sc (.int .u8 0), PV.sc (.int .u8 0), PV.sc (.int .u8 0), PV.sc (.int .u8 0), PV.sc (.int .u8 0), PV.sc (.int .u8 0), PV.sc (.int .u8 0), PV.sc (.int .u8 0), PV.sc (.int .u8 0), PV.sc (.int .u8 0), PV.sc (.int .u8 0), PV.sc (.int .u8 0), PV.sc (.int .u8 0), PV.sc (.int .u8 0)])) 54))]) && decide ((flat [PV.ro 5 false false (pu IntKind.u8 (xorB (ints (List.take 64 (List.take 32 (pu IntKind.u8 (sumP (ints (flat [PV.ro 5 key_z key_f key]))))) ++ List.drop (0 + min (List.take 32 (pu IntKind.u8 (sumP (ints (flat [PV.ro 5 key_z key_f key]))))).length 64) [PV.sc (.int .u8 0), PV.sc (.int .u8 0), PV.sc (.int .u8 0), PV.sc (.int .u8 0), PV.sc (.int .u8 0), PV.sc (.int .u8 0), PV.sc (.int .u8 0), PV.sc (.int .u8 0), PV.sc (.int .u8 0), PV.sc (.int .u8 0), PV.sc (.int .u8 0), PV.sc (.int .u8 0), PV.sc (.int .u8 0), PV.sc (.int .u8 0), PV.sc (.int .u8 0), PV.sc (.int .u8 0), PV.sc (.int .u8 0), PV.sc (.int .u8 0), PV.sc (.int .u8 0), PV.sc (.int .u8 0), PV.sc (.int .u8 0), PV.sc (.int .u8 0), PV.sc (.int .u8 0), PV.sc (.int .u8 0), PV.sc (.int .u8 0), PV.sc (.int .u8 0), PV.sc (.int .u8 0), PV.sc (.int .u8 0), PV.sc (.int .u8 0), PV.sc (.int .u8 0), PV.sc (.int .u8 0), PV.sc (.int .u8 0), PV.sc (.int .u8 0), PV.sc (.int .u8 0), PV.sc (.int .u8 0), PV.sc (.int .u8 0), PV.sc (.int .u8 0), PV.sc (.int .u8 0), PV.sc (.int .u8 0), PV.sc (.int .u8 0), PV.sc (.int .u8 0), PV.sc (.int .u8 0), PV.sc (.int .u8 0), PV.sc (.int .u8 0), PV.sc (.int .u8 0), PV.sc (.int .u8 0), PV.sc (.int .u8 0), PV.sc (.int .u8 0), PV.sc (.int .u8 0), PV.sc (.int .u8 0), PV.sc (.int .u8 0), PV.sc (.int .u8 0), PV.sc (.int .u8 0), PV.sc (.int .u8 0), PV.sc (.int .u8 0), PV.sc (.int .u8 0), PV.sc (.int .u8 0), PV.sc (.int .u8 0), PV.sc (.int .u8 0), PV.sc (.int .u8 0), PV.sc (.int .u8 0), PV.sc (.int .u8 0), PV.sc (.int .u8 0), PV.sc (.int .u8 0)])) 54))]).length ≤ 140737488355000) then bif allInt IntKind.u8 (List.take 64 (List.take 32 (pu IntKind.u8 (sumP (ints (flat [PV.ro 5 key_z key_f key]))))) ++ List.drop (0 + min (List.take 32 (pu IntKind.u8 (sumP (ints (flat [PV.ro 5 key_z key_f key]))))).length 64) [PV.sc (.int .u8 0), PV.sc (.int .u8 0), PV.sc (.int .u8 0), PV.sc (.int .u8 0), PV.sc (.int .u8 0), PV.sc (.int .u8 0), PV.sc (.int .u8 0), PV.sc (.int .u8 0), PV.sc (.int .u8 0), PV.sc (.int .u8 0), PV.sc (.int .u8 0), PV.sc (.int .u8 0), PV.sc (.int .u8 0), PV.sc (.int .u8 0), PV.sc (.int .u8 0), PV.sc (.int .u8 0), PV.sc (.int .u8 0), PV.sc (.int .u8 0), PV.sc (.int .u8 0), PV.sc (.int .u8 0), PV.sc (.int .u8 0), PV.sc (.int .u8 0), PV.sc (.int .u8 0), PV.sc (.int .u8 0), PV.sc (.int .u8 0), PV.sc (.int .u8 0), PV.sc (.int .u8 0), PV.sc (.int .u8 0), PV.sc (.int .u8 0), PV.sc (.int .u8 0), PV.sc (.int .u8 0), PV.sc (.int .u8 0), PV.sc (.int .u8 0), PV.sc (.int .u8 0), PV.sc (.int .u8 0), PV.sc (.int .u8 0), PV.sc (.int .u8 0), PV.sc (.int .u8 0), PV.sc (.int .u8 0), PV.sc (.int .u8 0), PV.sc (.int .u8 0), PV.sc (.int .u8 0), PV.sc (.int .u8 0), PV.sc (.int .u8 0), PV.sc (.int .u8 0), PV.sc (.int .u8 0), PV.sc (.int .u8 0), PV.sc (.int .u8 0), PV.sc (.int .u8 0), PV.sc (.int .u8 0), PV.sc (.int .u8 0), PV.sc (.int .u8 0), PV.sc (.int .u8 0), PV.sc (.int .u8 0), PV.sc (.int .u8 0), PV.sc (.int .u8 0), PV.sc (.int .u8 0), PV.sc (.int .u8 0), PV.sc (.int .u8 0), PV.sc (.int .u8 0), PV.sc (.int .u8 0), PV.sc (.int .u8 0), PV.sc (.int .u8 0), PV.sc (.int .u8 0)]) && decide ((List.take 64 (List.take 32 (pu IntKind.u8 (sumP (ints (flat [PV.ro 5 key_z key_f key]))))) ++ List.drop (0 + min (List.take 32 (pu IntKind.u8 (sumP (ints (flat [PV.ro 5 key_z key_f key]))))).length 64) [PV.sc (.int .u8 0), PV.sc (.int .u8 0), PV.sc (.int .u8 0), PV.sc (.int .u8 0), PV.sc (.int .u8 0), PV.sc (.int .u8 0), PV.sc (.int .u8 0), PV.sc (.int .u8 0), PV.sc (.int .u8 0), PV.sc (.int .u8 0), PV.sc (.int .u8 0), PV.sc (.int .u8 0), PV.sc (.int .u8 0), PV.sc (.int .u8 0), PV.sc (.int .u8 0), PV.sc (.int .u8 0), PV.sc (.int .u8 0), PV.sc (.int .u8 0), PV.sc (.int .u8 0), PV.sc (.int .u8 0), PV.sc (.int .u8 0), PV.sc (.int .u8 0), PV.sc (.int .u8 0), PV.sc (.int .u8 0), PV.sc (.int .u8 0), PV.sc (.int .u8 0), PV.sc (.int .u8 0), PV.sc (.int .u8 0), PV.sc (.int .u8 0), PV.sc (.int .u8 0), PV.sc (.int .u8 0), PV.sc (.int .u8 0), PV.sc (.int .u8 0), PV.sc (.int .u8 0), PV.sc (.int .u8 0), PV.sc (.int .u8 0), PV.sc (.int .u8 0), PV.sc (.int .u8 0), PV.sc (.int .u8 0), PV.sc (.int .u8 0), PV.sc (.int .u8 0), PV.sc (.int .u8 0), PV.sc (.int .u8 0), PV.sc (.int .u8 0), PV.sc (.int .u8 0), PV.sc (.int .u8 0), PV.sc (.int .u8 0), PV.sc (.int .u8 0), PV.sc (.int .u8 0), PV.sc (.int .u8 0), PV.sc (.int .u8 0), PV.sc (.int .u8 0), PV.sc (.int .u8 0), PV.sc (.int .u8 0), PV.sc (.int .u8 0), PV.sc (.int .u8 0), PV.sc (.int .u8 0), PV.sc (.int .u8 0), PV.sc (.int .u8 0), PV.sc (.int .u8 0), PV.sc (.int .u8 0), PV.sc (.int .u8 0), PV.sc (.int .u8 0), PV.sc (.int .u8 0)]).length = 64) && true then bif allInt IntKind.u8 (flat [PV.ro 5 false false (pu IntKind.u8 (xorB (ints (List.take 64 (List.take 32 (pu IntKind.u8 (sumP (ints (flat [PV.ro 5 key_z key_f key]))))) ++ List.drop (0 + min (List.take 32 (pu IntKind.u8 (sumP (ints (flat [PV.ro 5 key_z key_f key]))))).length 64) [PV.sc (.int .u8 0), PV.sc (.int .u8 0), PV.sc (.int .u8 0), PV.sc (.int .u8 0), PV.sc (.int .u8 0), PV.sc (.int .u8 0), PV.sc (.int .u8 0), PV.sc (.int .u8 0), PV.sc (.int .u8 0), PV.sc (.int .u8 0), PV.sc (.int .u8 0), PV.sc (.int .u8 0), PV.sc (.int .u8 0), PV.sc (.int .u8 0), PV.sc (.int .u8 0), PV.sc (.int .u8 0), PV.sc (.int .u8 0), PV.sc (.int .u8 0), PV.sc (.int .u8 0), PV.sc (.int .u8 0), PV.sc (.int .u8 0), PV.sc (.int .u8 0), PV.sc (.int .u8 0), PV.sc (.int .u8 0), PV.sc (.int .u8 0), PV.sc (.int .u8 0), PV.sc (.int .u8 0), PV.sc (.int .u8 0), PV.sc (.int .u8 0), PV.sc (.int .u8 0), PV.sc (.int .u8 0), PV.sc (.int .u8 0), PV.sc (.int .u8 0), PV.sc (.int .u8 0), PV.sc (.int .u8 0), PV.sc (.int .u8 0), PV.sc (.int .u8 0), PV.sc (.int .u8 0), PV.sc (.int .u8 0), PV.sc (.int .u8 0), PV.sc (.int .u8 0), PV.sc (.int .u8 0), PV.sc (.int .u8 0), PV.sc (.int .u8 0), PV.sc (.int .u8 0), PV.sc (.int .u8 0), PV.sc (.int .u8 0), PV.sc (.int .u8 0), PV.sc (.int .u8 0), PV.sc (.int .u8 0), PV.sc (.int .u8 0), PV.sc (.int .u8 0), PV.sc (.int .u8 0), PV.sc (.int .u8 0), PV.sc (.int .u8 0), PV.sc (.int .u8 0), PV.sc (.int .u8 0), PV.sc (.int .u8 0), PV.sc (.int .u8 0), PV.sc (.int .u8 0), PV.sc (.int .u8 0), PV.sc (.int .u8 0), PV.sc (.int .u8 0), PV.sc (.int .u8 0)])) 92)), PV.ro 5 false false (List.take 32 (pu IntKind.u8 (sumP (ints (flat [PV.ro 5 false false (pu IntKind.u8 (xorB (ints (List.take 64 (List.take 32 (pu IntKind.u8 (sumP (ints (flat [PV.ro 5 key_z key_f key]))))) ++ List.drop (0 + min (List.take 32 (pu IntKind.u8 (sumP (ints (flat [PV.ro 5 key_z key_f key]))))).length 64) [PV.sc (.int .u8 0), PV.sc (.int .u8 0), PV.sc (.int .u8 0), PV.sc (.int .u8 0), PV.sc (.int .u8 0), PV.sc (.int .u8 0), PV.sc (.int .u8 0), PV.sc (.int .u8 0), PV.sc (.int .u8 0), PV.sc (.int .u8 0), PV.sc (.int .u8 0), PV.sc (.int .u8 0), PV.sc (.int .u8 0), PV.sc (.int .u8 0), PV.sc (.int .u8 0), PV.sc (.int .u8 0), PV.sc (.int .u8 0), PV.sc (.int .u8 0), PV.sc (.int .u8 0), PV.sc (.int .u8 0), PV.sc (.int .u8 0), PV.sc (.int .u8 0), PV.sc (.int .u8 0), PV.sc (.int .u8 0), PV.sc (.int .u8 0), PV.sc (.int .u8 0), PV.sc (.int .u8 0), PV.sc (.int .u8 0), PV.sc (.int .u8 0), PV.sc (.int .u8 0), PV.sc (.int .u8 0), PV.sc (.int .u8 0), PV.sc (.int .u8 0), PV.sc (.int .u8 0), PV.sc (.int .u8 0), PV.sc (.int .u8 0), PV.sc (.int .u8 0), PV.sc (.int .u8 0), PV.sc (.int .u8 0), PV.sc (.int .u8 0), PV.sc (.int .u8 0), PV.sc (.int .u8 0), PV.sc (.int .u8 0), PV.sc (.int .u8 0), PV.sc (.int .u8 0), PV.sc (.int .u8 0), PV.sc (.int .u8 0), PV.sc (.int .u8 0), PV.sc (.int .u8 0), PV.sc (.int .u8 0), PV.sc (.int .u8 0), PV.sc (.int .u8 0), PV.sc (.int .u8 0), PV.sc (.int .u8 0), PV.sc (.int .u8 0), PV.sc (.int .u8 0), PV.sc (.int .u8 0), PV.sc (.int .u8 0), PV.sc (.int .u8 0), PV.sc (.int .u8 0), PV.sc (.int .u8 0), PV.sc (.int .u8 0), PV.sc (.int .u8 0), PV.sc (.int .u8 0)])) 54))])))))]) && decide ((flat [PV.ro 5 false false (pu IntKind.u8 (xorB (ints (List.take 64 (List.take 32 (pu IntKind.u8 (sumP (ints (flat [PV.ro 5 key_z key_f key]))))) ++ List.drop (0 + min (List.take 32 (pu IntKind.u8 (sumP (ints (flat [PV.ro 5 key_z key_f key]))))).length 64) [PV.sc (.int .u8 0), PV.sc (.int .u8 0), PV.sc (.int .u8 0), PV.sc (.int .u8 0), PV.sc (.int .u8 0), PV.sc (.int .u8 0), PV.sc (.int .u8 0), PV.sc (.int .u8 0), PV.sc (.int .u8 0), PV.sc (.int .u8 0), PV.sc (.int .u8 0), PV.sc (.int .u8 0), PV.sc (.int .u8 0), PV.sc (.int .u8 0), PV.sc (.int .u8 0), PV.sc (.int .u8 0), PV.sc (.int .u8 0), PV.sc (.int .u8 0), PV.sc (.int .u8 0), PV.sc (.int .u8 0), PV.sc (.int .u8 0), PV.sc (.int .u8 0), PV.sc (.int .u8 0), PV.sc (.int .u8 0), PV.sc (.int .u8 0), PV.sc (.int .u8 0), PV.sc (.int .u8 0), PV.sc (.int .u8 0), PV.sc (.int .u8 0), PV.sc (.int .u8 0), PV.sc (.int .u8 0), PV.sc (.int .u8 0), PV.sc (.int .u8 0), PV.sc (.int .u8 0), PV.sc (.int .u8 0), PV.sc (.int .u8 0), PV.sc (.int .u8 0), PV.sc (.int .u8 0), PV.sc (.int .u8 0), PV.sc (.int .u8 0), PV.sc (.int .u8 0), PV.sc (.int .u8 0), PV.sc (.int .u8 0), PV.sc (.int .u8 0), PV.sc (.int .u8 0), PV.sc (.int .u8 0), PV.sc (.int .u8 0), PV.sc (.int .u8 0), PV.sc (.int .u8 0), PV.sc (.int .u8 0), PV.sc (.int .u8 0), PV.sc (.int .u8 0), PV.sc (.int .u8 0), PV.sc (.int .u8 0), PV.sc (.int .u8 0), PV.sc (.int .u8 0), PV.sc (.int .u8 0), PV.sc (.int .u8 0), PV.sc (.int .u8 0), PV.sc (.int .u8 0), PV.sc (.int .u8 0), PV.sc (.int .u8 0), PV.sc (.int .u8 0), PV.sc (.int .u8 0)])) 92)), PV.ro 5 false false (List.take 32 (pu IntKind.u8 (sumP (ints (flat [PV.ro 5 false false (pu IntKind.u8 (xorB (ints (List.take 64 (List.take 32 (pu IntKind.u8 (sumP (ints (flat [PV.ro 5 key_z key_f key]))))) ++ List.drop (0 + min (List.take 32 (pu IntKind.u8 (sumP (ints (flat [PV.ro 5 key_z key_f key]))))).length 64) [PV.sc (.int .u8 0), PV.sc (.int .u8 0), PV.sc (.int .u8 0), PV.sc (.int .u8 0), PV.sc (.int .u8 0), PV.sc (.int .u8 0), PV.sc (.int .u8 0), PV.sc (.int .u8 0), PV.sc (.int .u8 0), PV.sc (.int .u8 0), PV.sc (.int .u8 0), PV.sc (.int .u8 0), PV.sc (.int .u8 0), PV.sc (.int .u8 0), PV.sc (.int .u8 0), PV.sc (.int .u8 0), PV.sc (.int .u8 0), PV.sc (.int .u8 0), PV.sc (.int .u8 0), PV.sc (.int .u8 0), PV.sc (.int .u8 0), PV.sc (.int .u8 0), PV.sc (.int .u8 0), PV.sc (.int .u8 0), PV.sc (.int .u8 0), PV.sc (.int .u8 0), PV.sc (.int .u8 0), PV.sc (.int .u8 0), PV.sc (.int .u8 0), PV.sc (.int .u8 0), PV.sc (.int .u8 0), PV.sc (.int .u8 0), PV.sc (.int .u8 0), PV.sc (.int .u8 0), PV.sc (.int .u8 0), PV.sc (.int .u8 0), PV.sc (.int .u8 0), PV.sc (.int .u8 0), PV.sc (.int .u8 0), PV.sc (.int .u8 0), PV.sc (.int .u8 0), PV.sc (.int .u8 0), PV.sc (.int .u8 0), PV.sc (.int .u8 0), PV.sc (.int .u8 0), PV.sc (.int .u8 0), PV.sc (.int .u8 0), PV.sc (.int .u8 0), PV.sc (.int .u8 0), PV.sc (.int .u8 0), PV.sc (.int .u8 0), PV.sc (.int .u8 0), PV.sc (.int .u8 0), PV.sc (.int .u8 0), PV.sc (.int .u8 0), PV.sc (.int .u8 0), PV.sc (.int .u8 0), PV.sc (.int .u8 0), PV.sc (.int .u8 0), PV.sc (.int .u8 0), PV.sc (.int .u8 0), PV.sc (.int .u8 0), PV.sc (.int .u8 0), PV.sc (.int .u8 0)])) 54))])))))]).length ≤ 140737488355000) then k (Res.mk (PV.ar 37 (pu IntKind.u8 (sumP (ints (flat [PV.ro 5 false false (pu IntKind.u8 (xorB (ints (List.take 64 (List.take 32 (pu IntKind.u8 (sumP (ints (flat [PV.ro 5 key_z key_f key]))))) ++ List.drop (0 + min (List.take 32 (pu IntKind.u8 (sumP (ints (flat [PV.ro 5 key_z key_f key]))))).length 64) [PV.sc (.int .u8 0), PV.sc (.int .u8 0), PV.sc (.int .u8 0), PV.sc (.int .u8 0), PV.sc (.int .u8 0), PV.sc (.int .u8 0), PV.sc (.int .u8 0), PV.sc (.int .u8 0), PV.sc (.int .u8 0), PV.sc (.int .u8 0), PV.sc (.int .u8 0), PV.sc (.int .u8 0), PV.sc (.int .u8 0), PV.sc (.int .u8 0), PV.sc (.int .u8 0), PV.sc (.int .u8 0), PV.sc (.int .u8 0), PV.sc (.int .u8 0), PV.sc (.int .u8 0), PV.sc (.int .u8 0), PV.sc (.int .u8 0), PV.sc (.int .u8 0), PV.sc (.int .u8 0), PV.sc (.int .u8 0), PV.sc (.int .u8 0), PV.sc (.int .u8 0), PV.sc (.int .u8 0), PV.sc (.int .u8 0), PV.sc (.int .u8 0), PV.sc (.int .u8 0), PV.sc (.int .u8 0), PV.sc (.int .u8 0), PV.sc (.int .u8 0), PV.sc (.int .u8 0), PV.sc (.int .u8 0), PV.sc (.int .u8 0), PV.sc (.int .u8 0), PV.sc (.int .u8 0), PV.sc (.int .u8 0), PV.sc (.int .u8 0), PV.sc (.int .u8 0), PV.sc (.int .u8 0), PV.sc (.int .u8 0), PV.sc (.int .u8 0), PV.sc (.int .u8 0), PV.sc (.int .u8 0), PV.sc (.int .u8 0), PV.sc (.int .u8 0), PV.sc (.int .u8 0), PV.sc (.int .u8 0), PV.sc (.int .u8 0), PV.sc (.int .u8 0), PV.sc (.int .u8 0), PV.sc (.int .u8 0), PV.sc (.int .u8 0), PV.sc (.int .u8 0), PV.sc (.int .u8 0), PV.sc (.int .u8 0), PV.sc (.int .u8 0), PV.sc (.int .u8 0), PV.sc (.int .u8 0), PV.sc (.int .u8 0), PV.sc (.int .u8 0), PV.sc (.int .u8 0)])) 92)), PV.ro 5 false false (List.take 32 (pu IntKind.u8 (sumP (ints (flat [PV.ro 5 false false (pu IntKind.u8 (xorB (ints (List.take 64 (List.take 32 (pu IntKind.u8 (sumP (ints (flat [PV.ro 5 key_z key_f key]))))) ++ List.drop (0 + min (List.take 32 (pu IntKind.u8 (sumP (ints (flat [PV.ro 5 key_z key_f key]))))).length 64) [PV.sc (.int .u8 0), PV.sc (.int .u8 0), PV.sc (.int .u8 0), PV.sc (.int .u8 0), PV.sc (.int .u8 0), PV.sc (.int .u8 0), PV.sc (.int .u8 0), PV.sc (.int .u8 0), PV.sc (.int .u8 0), PV.sc (.int .u8 0), PV.sc (.int .u8 0), PV.sc (.int .u8 0), PV.sc (.int .u8 0), PV.sc (.int .u8 0), PV.sc (.int .u8 0), PV.sc (.int .u8 0), PV.sc (.int .u8 0), PV.sc (.int .u8 0), PV.sc (.int .u8 0), PV.sc (.int .u8 0), PV.sc (.int .u8 0), PV.sc (.int .u8 0), PV.sc (.int .u8 0), PV.sc (.int .u8 0), PV.sc (.int .u8 0), PV.sc (.int .u8 0), PV.sc (.int .u8 0), PV.sc (.int .u8 0), PV.sc (.int .u8 0), PV.sc (.int .u8 0), PV.sc (.int .u8 0), PV.sc (.int .u8 0), PV.sc (.int .u8 0), PV.sc (.int .u8 0), PV.sc (.int .u8 0), PV.sc (.int .u8 0), PV.sc (.int .u8 0), PV.sc (.int .u8 0), PV.sc (.int .u8 0), PV.sc (.int .u8 0), PV.sc (.int .u8 0), PV.sc (.int .u8 0), PV.sc (.int .u8 0), PV.sc (.int .u8 0), PV.sc (.int .u8 0), PV.sc (.int .u8 0), PV.sc (.int .u8 0), PV.sc (.int .u8 0), PV.sc (.int .u8 0), PV.sc (.int .u8 0), PV.sc (.int .u8 0), PV.sc (.int .u8 0), PV.sc (.int .u8 0), PV.sc (.int .u8 0), PV.sc (.int .u8 0), PV.sc (.int .u8 0), PV.sc (.int .u8 0), PV.sc (.int .u8 0), PV.sc (.int .u8 0), PV.sc (.int .u8 0), PV.sc (.int .u8 0), PV.sc (.int .u8 0), PV.sc (.int .u8 0), PV.sc (.int .u8 0)])) 54))])))))]))))) [] []) else none else none else none else none else bif roomy (0 + parts.length) 24 && true then bif allInt IntKind.u8 (List.take 64 (List.take 32 (pu IntKind.u8 (sumP (ints (flat [PV.ro 5 key_z key_f key]))))) ++ List.drop (0 + min (List.take 32 (pu IntKind.u8 (sumP (ints (flat [PV.ro 5 key_z key_f key]))))).length 64) [PV.sc (.int .u8 0), PV.sc (.int .u8 0), PV.sc (.int .u8 0), PV.sc (.int .u8 0), PV.sc (.int .u8 0), PV.sc (.int .u8 0), PV.sc (.int .u8 0), PV.sc (.int .u8 0), PV.sc (.int .u8 0), PV.sc (.int .u8 0), PV.sc (.int .u8 0), PV.sc (.int .u8 0), PV.sc (.int .u8 0), PV.sc (.int .u8 0), PV.sc (.int .u8 0), PV.sc (.int .u8 0), PV.sc (.int .u8 0), PV.sc (.int .u8 0), PV.sc (.int .u8 0), PV.sc (.int .u8 0), PV.sc (.int .u8 0), PV.sc (.int .u8 0), PV.sc (.int .u8 0), PV.sc (.int .u8 0), PV.sc (.int .u8 0), PV.sc (.int .u8 0), PV.sc (.int .u8 0), PV.sc (.int .u8 0), PV.sc (.int .u8 0), PV.sc (.int .u8 0), PV.sc (.int .u8 0), PV.sc (.int .u8 0), PV.sc (.int .u8 0), PV.sc (.int .u8 0), PV.sc (.int .u8 0), PV.sc (.int .u8 0), PV.sc (.int .u8 0), PV.sc (.int .u8 0), PV.sc (.int .u8 0), PV.sc (.int .u8 0), PV.sc (.int .u8 0), PV.sc (.int .u8 0), PV.sc (.int .u8 0), PV.sc (.int .u8 0), PV.sc (.int .u8 0), PV.sc (.int .u8 0), PV.sc (.int .u8 0), PV.sc (.int .u8 0), PV.sc (.int .u8 0), PV.sc (.int .u8 0), PV.sc (.int .u8 0), PV.sc (.int .u8 0), PV.sc (.int .u8 0), PV.sc (.int .u8 0), PV.sc (.int .u8 0), PV.sc (.int .u8 0), PV.sc (.int .u8 0), PV.sc (.int .u8 0), PV.sc (.int .u8 0), PV.sc (.int .u8 0), PV.sc (.int .u8 0), PV.sc (.int .u8 0), PV.sc (.int .u8 0), PV.sc (.int .u8 0)]) && decide ((List.take 64 (List.take 32 (pu IntKind.u8 (sumP (ints (flat [PV.ro 5 key_z key_f key]))))) ++ List.drop (0 + min (List.take 32 (pu IntKind.u8 (sumP (ints (flat [PV.ro 5 key_z key_f key]))))).length 64) [PV.sc (.int .u8 0), PV.sc (.int .u8 0), PV.sc (.int .u8 0), PV.sc (.int .u8 0), PV.sc (.int .u8 0), PV.sc (.int .u8 0), PV.sc (.int .u8 0), PV.sc (.int .u8 0), PV.sc (.int .u8 0), PV.sc (.int .u8 0), PV.sc (.int .u8 0), PV.sc (.int .u8 0), PV.sc (.int .u8 0), PV.sc (.int .u8 0), PV.sc (.int .u8 0), PV.sc (.int .u8 0), PV.sc (.int .u8 0), PV.sc (.int .u8 0), PV.sc (.int .u8 0), PV.sc (.int .u8 0), PV.sc (.int .u8 0), PV.sc (.int .u8 0), PV.sc (.int .u8 0), PV.sc (.int .u8 0), PV.sc (.int .u8 0), PV.sc (.int .u8 0), PV.sc (.int .u8 0), PV.sc (.int .u8 0), PV.sc (.int .u8 0), PV.sc (.int .u8 0), PV.sc (.int .u8 0), PV.sc (.int .u8 0), PV.sc (.int .u8 0), PV.sc (.int .u8 0), PV.sc (.int .u8 0), PV.sc (.int .u8 0), PV.sc (.int .u8 0), PV.sc (.int .u8 0), PV.sc (.int .u8 0), PV.sc (.int .u8 0), PV.sc (.int .u8 0), PV.sc (.int .u8 0), PV.sc (.int .u8 0), PV.sc (.int .u8 0), PV.sc (.int .u8 0), PV.sc (.int .u8 0), PV.sc (.int .u8 0), PV.sc (.int .u8 0), PV.sc (.int .u8 0), PV.sc (.int .u8 0), PV.sc (.int .u8 0), PV.sc (.int .u8 0), PV.sc (.int .u8 0), PV.sc (.int .u8 0), PV.sc (.int .u8 0), PV.sc (.int .u8 0), PV.sc (.int .u8 0), PV.sc (.int .u8 0), PV.sc (.int .u8 0), PV.sc (.int .u8 0), PV.sc (.int .u8 0), PV.sc (.int .u8 0), PV.sc (.int .u8 0), PV.sc (.int .u8 0)]).length = 64) && true then bif decide (0 + parts.length = parts.length) && decide (parts.length ≤ 1000000000) then bif parts.all (PV.isRo 5) && decide ((PV.ro 5 false false (pu IntKind.u8 (xorB (ints (List.take 64 (List.take 32 (pu IntKind.u8 (sumP (ints (flat [PV.ro 5 key_z key_f key]))))) ++ List.drop (0 + min (List.take 32 (pu IntKind.u8 (sumP (ints (flat [PV.ro 5 key_z key_f key]))))).length 64) [PV.sc (.int .u8 0), PV.sc (.int .u8 0), PV.sc (.int .u8 0), PV.sc (.int .u8 0), PV.sc (.int .u8 0), PV.sc (.int .u8 0), PV.sc (.int .u8 0), PV.sc (.int .u8 0), PV.sc (.int .u8 0), PV.sc (.int .u8 0), PV.sc (.int .u8 0), PV.sc (.int .u8 0), PV.sc (.int .u8 0), PV.sc (.int .u8 0), PV.sc (.int .u8 0), PV.sc (.int .u8 0), PV.sc (.int .u8 0), PV.sc (.int .u8 0), PV.sc (.int .u8 0), PV.sc (.int .u8 0), PV.sc (.int .u8 0), PV.sc (.int .u8 0), PV.sc (.int .u8 0), PV.sc (.int .u8 0), PV.sc (.int .u8 0), PV.sc (.int .u8 0), PV.sc (.int .u8 0), PV.sc (.int .u8 0), PV.sc (.int .u8 0), PV.sc (.int .u8 0), PV.sc (.int .u8 0), PV.sc (.int .u8 0), PV.sc (.int .u8 0), PV.sc (.int .u8 0), PV.sc (.int .u8 0), PV.sc (.int .u8 0), PV.sc (.int .u8 0), PV.sc (.int .u8 0), PV.sc (.int .u8 0), PV.sc (.int .u8 0), PV.sc (.int .u8 0), PV.sc (.int .u8 0), PV.sc (.int .u8 0), PV.sc (.int .u8 0), PV.sc (.int .u8 0), PV.sc (.int .u8 0), PV.sc (.int .u8 0), PV.sc (.int .u8 0), PV.sc (.int .u8 0), PV.sc (.int .u8 0), PV.sc (.int .u8 0), PV.sc (.int .u8 0), PV.sc (.int .u8 0), PV.sc (.int .u8 0), PV.sc (.int .u8 0), PV.sc (.int .u8 0), PV.sc (.int .u8 0), PV.sc (.int .u8 0), PV.sc (.int .u8 0), PV.sc (.int .u8 0), PV.sc (.int .u8 0), PV.sc (.int .u8 0), PV.sc (.int .u8 0), PV.sc (.int .u8 0)])) 54)) :: parts).length ≤ 140737488355328) && (allInt IntKind.u8 (flat (PV.ro 5 false false (pu IntKind.u8 (xorB (ints (List.take 64 (List.take 32 (pu IntKind.u8 (sumP (ints (flat [PV.ro 5 key_z key_f key]))))) ++ List.drop (0 + min (List.take 32 (pu IntKind.u8 (sumP (ints (flat [PV.ro 5 key_z key_f key]))))).length 64) [PV.sc (.int .u8 0), PV.sc (.int .u8 0), PV.sc (.int .u8 0), PV.sc (.int .u8 0), PV.sc (.int .u8 0), PV.sc (.int .u8 0), PV.sc (.int .u8 0), PV.sc (.int .u8 0), PV.sc (.int .u8 0), PV.sc (.int .u8 0), PV.sc (.int .u8 0), PV.sc (.int .u8 0), PV.sc (.int .u8 0), PV.sc (.int .u8 0), PV.sc (.int .u8 0), PV.sc (.int .u8 0), PV.sc (.int .u8 0), PV.sc (.int .u8 0), PV.sc (.int .u8 0), PV.sc (.int .u8 0), PV.sc (.int .u8 0), PV.sc (.int .u8 0), PV.sc (.int .u8 0), PV.sc (.int .u8 0), PV.sc (.int .u8 0), PV.sc (.int .u8 0), PV.sc (.int .u8 0), PV.sc (.int .u8 0), PV.sc (.int .u8 0), PV.sc (.int .u8 0), PV.sc (.int .u8 0), PV.sc (.int .u8 0), PV.sc (.int .u8 0), PV.sc (.int .u8 0), PV.sc (.int .u8 0), PV.sc (.int .u8 0), PV.sc (.int .u8 0), PV.sc (.int .u8 0), PV.sc (.int .u8 0), PV.sc (.int .u8 0), PV.sc (.int .u8 0), PV.sc (.int .u8 0), PV.sc (.int .u8 0), PV.sc (.int .u8 0), PV.sc (.int .u8 0), PV.sc (.int .u8 0), PV.sc (.int .u8 0), PV.sc (.int .u8 0), PV.sc (.int .u8 0), PV.sc (.int .u8 0), PV.sc (.int .u8 0), PV.sc (.int .u8 0), PV.sc (.int .u8 0), PV.sc (.int .u8 0), PV.sc (.int .u8 0), PV.sc (.int .u8 0), PV.sc (.int .u8 0), PV.sc (.int .u8 0), PV.sc (.int .u8 0), PV.sc (.int .u8 0), PV.sc (.int .u8 0), PV.sc (.int .u8 0), PV.sc (.int .u8 0), PV.sc (.int .u8 0)])) 54)) :: parts)) && decide ((flat (PV.ro 5 false false (pu IntKind.u8 (xorB (ints (List.take 64 (List.take 32 (pu IntKind.u8 (sumP (ints (flat [PV.ro 5 key_z key_f key]))))) ++ List.drop (0 + min (List.take 32 (pu IntKind.u8 (sumP (ints (flat [PV.ro 5 key_z key_f key]))))).length 64) [PV.sc (.int .u8 0), PV.sc (.int .u8 0), PV.sc (.int .u8 0), PV.sc (.int .u8 0), PV.sc (.int .u8 0), PV.sc (.int .u8 0), PV.sc (.int .u8 0), PV.sc (.int .u8 0), PV.sc (.int .u8 0), PV.sc (.int .u8 0), PV.sc (.int .u8 0), PV.sc (.int .u8 0), PV.sc (.int .u8 0), PV.sc (.int .u8 0), PV.sc (.int .u8 0), PV.sc (.int .u8 0), PV.sc (.int .u8 0), PV.sc (.int .u8 0), PV.sc (.int .u8 0), PV.sc (.int .u8 0), PV.sc (.int .u8 0), PV.sc (.int .u8 0), PV.sc (.int .u8 0), PV.sc (.int .u8 0), PV.sc (.int .u8 0), PV.sc (.int .u8 0), PV.sc (.int .u8 0), PV.sc (.int .u8 0), PV.sc (.int .u8 0), PV.sc (.int .u8 0), PV.sc (.int .u8 0), PV.sc (.int .u8 0), PV.sc (.int .u8 0), PV.sc (.int .u8 0), PV.sc (.int .u8 0), PV.sc (.int .u8 0), PV.sc (.int .u8 0), PV.sc (.int .u8 0), PV.sc (.int .u8 0), PV.sc (.int .u8 0), PV.sc (.int .u8 0), PV.sc (.int .u8 0), PV.sc (.int .u8 0), PV.sc (.int .u8 0), PV.sc (.int .u8 0), PV.sc (.int .u8 0), PV.sc (.int .u8 0), PV.sc (.int .u8 0), PV.sc (.int .u8 0), PV.sc (.int .u8 0), PV.sc (.int .u8 0), PV.sc (.int .u8 0), PV.sc (.int .u8 0), PV.sc (.int .u8 0), PV.sc (.int .u8 0), PV.sc (.int .u8 0), PV.sc (.int .u8 0), PV.sc (.int .u8 0), PV.sc (.int .u8 0), PV.sc (.int .u8 0), PV.sc (.int .u8 0), PV.sc (.int .u8 0), PV.sc (.int .u8 0), PV.sc (.int .u8 0)])) 54)) :: parts)).length ≤ 140737488355000)) then bif allInt IntKind.u8 (List.take 64 (List.take 32 (pu IntKind.u8 (sumP (ints (flat [PV.ro 5 key_z key_f key]))))) ++ List.drop (0 + min (List.take 32 (pu IntKind.u8 (sumP (ints (flat [PV.ro 5 key_z key_f key]))))).length 64) [PV.sc (.int .u8 0), PV.sc (.int .u8 0), PV.sc (.int .u8 0), PV.sc (.int .u8 0), PV.sc (.int .u8 0), PV.sc (.int .u8 0), PV.sc (.int .u8 0), PV.sc (.int .u8 0), PV.sc (.int .u8 0), PV.sc (.int .u8 0), PV.sc (.int .u8 0), PV.sc (.int .u8 0), PV.sc (.int .u8 0), PV.sc (.int .u8 0), PV.sc (.int .u8 0), PV.sc (.int .u8 0), PV.sc (.int .u8 0), PV.sc (.int .u8 0), PV.sc (.int .u8 0), PV.sc (.int .u8 0), PV.sc (.int .u8 0), PV.sc (.int .u8 0), PV.sc (.int .u8 0), PV.sc (.int .u8 0), PV.sc (.int .u8 0), PV.sc (.int .u8 0), PV.sc (.int .u8 0), PV.sc (.int .u8 0), PV.sc (.int .u8 0), PV.sc (.int .u8 0), PV.sc (.int .u8 0), PV.sc (.int .u8 0), PV.sc (.int .u8 0), PV.sc (.int .u8 0), PV.sc (.int .u8 0), PV.sc (.int .u8 0), PV.sc (.int .u8 0), PV.sc (.int .u8 0), PV.sc (.int .u8 0), PV.sc (.int .u8 0), PV.sc (.int .u8 0), PV.sc (.int .u8 0), PV.sc (.int .u8 0), PV.sc (.int .u8 0), PV.sc (.int .u8 0), PV.sc (.int .u8 0), PV.sc (.int .u8 0), PV.sc (.int .u8 0), PV.sc (.int .u8 0), PV.sc (.int .u8 0), PV.sc (.int .u8 0), PV.sc (.int .u8 0), PV.sc (.int .u8 0), PV.sc (.int .u8 0), PV.sc (.int .u8 0), PV.sc (.int .u8 0), PV.sc (.int .u8 0), PV.sc (.int .u8 0), PV.sc (.int .u8 0), PV.sc (.int .u8 0), PV.sc (.int .u8 0), PV.sc (.int .u8 0), PV.sc (.int .u8 0), PV.sc (.int .u8 0)]) && decide ((List.take 64 (List.take 32 (pu IntKind.u8 (sumP (ints (flat [PV.ro 5 key_z key_f key]))))) ++ List.drop (0 + min (List.take 32 (pu IntKind.u8 (sumP (ints (flat [PV.ro 5 key_z key_f key]))))).length 64) [PV.sc (.int .u8 0), PV.sc (.int .u8 0), PV.sc (.int .u8 0), PV.sc (.int .u8 0), PV.sc (.int .u8 0), PV.sc (.int .u8 0), PV.sc (.int .u8 0), PV.sc (.int .u8 0), PV.sc (.int .u8 0), PV.sc (.int .u8 0), PV.sc (.int .u8 0), PV.sc (.int .u8 0), PV.sc (.int .u8 0), PV.sc (.int .u8 0), PV.sc (.int .u8 0), PV.sc (.int .u8 0), PV.sc (.int .u8 0), PV.sc (.int .u8 0), PV.sc (.int .u8 0), PV.sc (.int .u8 0), PV.sc (.int .u8 0), PV.sc (.int .u8 0), PV.sc (.int .u8 0), PV.sc (.int .u8 0), PV.sc (.int .u8 0), PV.sc (.int .u8 0), PV.sc (.int .u8 0), PV.sc (.int .u8 0), PV.sc (.int .u8 0), PV.sc (.int .u8 0), PV.sc (.int .u8 0), PV.sc (.int .u8 0), PV.sc (.int .u8 0), PV.sc (.int .u8 0), PV.sc (.int .u8 0), PV.sc (.int .u8 0), PV.sc (.int .u8 0), PV.sc (.int .u8 0), PV.sc (.int .u8 0), PV.sc (.int .u8 0), PV.sc (.int .u8 0), PV.sc (.int .u8 0), PV.sc (.int .u8 0), PV.sc (.int .u8 0), PV.sc (.int .u8 0), PV.sc (.int .u8 0), PV.sc (.int .u8 0), PV.sc (.int .u8 0), PV.sc (.int .u8 0), PV.sc (.int .u8 0), PV.sc (.int .u8 0), PV.sc (.int .u8 0), PV.sc (.int .u8 0), PV.sc (.int .u8 0), PV.sc (.int .u8 0), PV.sc (.int .u8 0), PV.sc (.int .u8 0), PV.sc (.int .u8 0), PV.sc (.int .u8 0), PV.sc (.int .u8 0), PV.sc (.int .u8 0), PV.sc (.int .u8 0), PV.sc (.int .u8 0), PV.sc (.int .u8 0)]).length = 64) && true then bif allInt IntKind.u8 (flat [PV.ro 5 false false (pu IntKind.u8 (xorB (ints (List.take 64 (List.take 32 (pu IntKind.u8 (sumP (ints (flat [PV.ro 5 key_z key_f key]))))) ++ List.drop (0 + min (List.take 32 (pu IntKind.u8 (sumP (ints (flat [PV.ro 5 key_z key_f key]))))).length 64) [PV.sc (.int .u8 0), PV.sc (.int .u8 0), PV.sc (.int .u8 0), PV.sc (.int .u8 0), PV.sc (.int .u8 0), PV.sc (.int .u8 0), PV.sc (.int .u8 0), PV.sc (.int .u8 0), PV.sc (.int .u8 0), PV.sc (.int .u8 0), PV.sc (.int .u8 0), PV.sc (.int .u8 0), PV.sc (.int .u8 0), PV.sc (.int .u8 0), PV.sc (.int .u8 0), PV.sc (.int .u8 0), PV.sc (.int .u8 0), PV.sc (.int .u8 0), PV.sc (.int .u8 0), PV.sc (.int .u8 0), PV.sc (.int .u8 0), PV.sc (.int .u8 0), PV.sc (.int .u8 0), PV.sc (.int .u8 0), PV.sc (.int .u8 0), PV.sc (.int .u8 0), PV.sc (.int .u8 0), PV.sc (.int .u8 0), PV.sc (.int .u8 0), PV.sc (.int .u8 0), PV.sc (.int .u8 0), PV.sc (.int .u8 0), PV.sc (.int .u8 0), PV.sc (.int .u8 0), PV.sc (.int .u8 0), PV.sc (.int .u8 0), PV.sc (.int .u8 0), PV.sc (.int .u8 0), PV.sc (.int .u8 0), PV.sc (.int .u8 0), PV.sc (.int .u8 0), PV.sc (.int .u8 0), PV.sc (.int .u8 0), PV.sc (.int .u8 0), PV.sc (.int .u8 0), PV.sc (.int .u8 0), PV.sc (.int .u8 0), PV.sc (.int .u8 0), PV.sc (.int .u8 0), PV.sc (.int .u8 0), PV.sc (.int .u8 0), PV.sc (.int .u8 0), PV.sc (.int .u8 0), PV.sc (.int .u8 0), PV.sc (.int .u8 0), PV.sc (.int .u8 0), PV.sc (.int .u8 0), PV.sc (.int .u8 0), PV.sc (.int .u8 0), PV.sc (.int .u8 0), PV.sc (.int .u8 0), PV.sc (.int .u8 0), PV.sc (.int .u8 0), PV.sc (.int .u8 0)])) 92)), PV.ro 5 false false (List.take 32 (pu IntKind.u8 (sumP (ints (flat (PV.ro 5 false false (pu IntKind.u8 (xorB (ints (List.take 64 (List.take 32 (pu IntKind.u8 (sumP (ints (flat [PV.ro 5 key_z key_f key]))))) ++ List.drop (0 + min (List.take 32 (pu IntKind.u8 (sumP (ints (flat [PV.ro 5 key_z key_f key]))))).length 64) [PV.sc (.int .u8 0), PV.sc (.int .u8 0), PV.sc (.int .u8 0), PV.sc (.int .u8 0), PV.sc (.int .u8 0), PV.sc (.int .u8 0), PV.sc (.int .u8 0), PV.sc (.int .u8 0), PV.sc (.int .u8 0), PV.sc (.int .u8 0), PV.sc (.int .u8 0), PV.sc (.int .u8 0), PV.sc (.int .u8 0), PV.sc (.int .u8 0), PV.sc (.int .u8 0), PV.sc (.int .u8 0), PV.sc (.int .u8 0), PV.sc (.int .u8 0), PV.sc (.int .u8 0), PV.sc (.int .u8 0), PV.sc (.int .u8 0), PV.sc (.int .u8 0), PV.sc (.int .u8 0), PV.sc (.int .u8 0), PV.sc (.int .u8 0), PV.sc (.int .u8 0), PV.sc (.int .u8 0), PV.sc (.int .u8 0), PV.sc (.int .u8 0), PV.sc (.int .u8 0), PV.sc (.int .u8 0), PV.sc (.int .u8 0), PV.sc (.int .u8 0), PV.sc (.int .u8 0), PV.sc (.int .u8 0), PV.sc (.int .u8 0), PV.sc (.int .u8 0), PV.sc (.int .u8 0), PV.sc (.int .u8 0), PV.sc (.int .u8 0), PV.sc (.int .u8 0), PV.sc (.int .u8 0), PV.sc (.int .u8 0), PV.sc (.int .u8 0), PV.sc (.int .u8 0), PV.sc (.int .u8 0), PV.sc (.int .u8 0), PV.sc (.int .u8 0), PV.sc (.int .u8 0), PV.sc (.int .u8 0), PV.sc (.int .u8 0), PV.sc (.int .u8 0), PV.sc (.int .u8 0), PV.sc (.int .u8 0), PV.sc (.int .u8 0), PV.sc (.int .u8 0), PV.sc (.int .u8 0), PV.sc (.int .u8 0), PV.sc (.int .u8 0), PV.sc (.int .u8 0), PV.sc (.int .u8 0), PV.sc (.int .u8 0), PV.sc (.int .u8 0), PV.sc (.int .u8 0)])) 54)) :: parts))))))]) && decide ((flat [PV.ro 5 false false (pu IntKind.u8 (xorB (ints (List.take 64 (List.take 32 (pu IntKind.u8 (sumP (ints (flat [PV.ro 5 key_z key_f key]))))) ++ List.drop (0 + min (List.take 32 (pu IntKind.u8 (sumP (ints (flat [PV.ro 5 key_z key_f key]))))).length 64) [PV.sc (.int .u8 0), PV.sc (.int .u8 0), PV.sc (.int .u8 0), PV.sc (.int .u8 0), PV.sc (.int .u8 0), PV.sc (.int .u8 0), PV.sc (.int .u8 0), PV.sc (.int .u8 0), PV.sc (.int .u8 0), PV.sc (.int .u8 0), PV.sc (.int .u8 0), PV.sc (.int .u8 0), PV.sc (.int .u8 0), PV.sc (.int .u8 0), PV.sc (.int .u8 0), PV.sc (.int .u8 0), PV.sc (.int .u8 0), PV.sc (.int .u8 0), PV.sc (.int .u8 0), PV.sc (.int .u8 0), PV.sc (.int .u8 0), PV.sc (.int .u8 0), PV.sc (.int .u8 0), PV.sc (.int .u8 0), PV.sc (.int .u8 0), PV.sc (.int .u8 0), PV.sc (.int .u8 0), PV.sc (.int .u8 0), PV.sc (.int .u8 0), PV.sc (.int .u8 0), PV.sc (.int .u8 0), PV.sc (.int .u8 0), PV.sc (.int .u8 0), PV.sc (.int .u8 0), PV.sc (.int .u8 0), PV.sc (.int .u8 0), PV.sc (.int .u8 0), PV.sc (.int .u8 0), PV.sc (.int .u8 0), PV.sc (.int .u8 0), PV.sc (.int .u8 0), PV.sc (.int .u8 0), PV.sc (.int .u8 0), PV.sc (.int .u8 0), PV.sc (.int .u8 0), PV.sc (.int .u8 0), PV.sc (.int .u8 0), PV.sc (.int .u8 0), PV.sc (.int .u8 0), PV.sc (.int .u8 0), PV.sc (.int .u8 0), PV.sc (.int .u8 0), PV.sc (.int .u8 0), PV.sc (.int .u8 0), PV.sc (.int .u8 0), PV.sc (.int .u8 0), PV.sc (.int .u8 0), PV.sc (.int .u8 0), PV.sc (.int .u8 0), PV.sc (.int .u8 0), PV.sc (.int .u8 0), PV.sc (.int .u8 0), PV.sc (.int .u8 0), PV.sc (.int .u8 0)])) 92)), PV.ro 5 false false (List.take 32 (pu IntKind.u8 (sumP (ints (flat (PV.ro 5 false false (pu IntKind.u8 (xorB (ints (List.take 64 (List.take 32 (pu IntKind.u8 (sumP (ints (flat [PV.ro 5 key_z key_f key]))))) ++ List.drop (0 + min (List.take 32 (pu IntKind.u8 (sumP (ints (flat [PV.ro 5 key_z key_f key]))))).length 64) [PV.sc (.int .u8 0), PV.sc (.int .u8 0), PV.sc (.int .u8 0), PV.sc (.int .u8 0), PV.sc (.int .u8 0), PV.sc (.int .u8 0), PV.sc (.int .u8 0), PV.sc (.int .u8 0), PV.sc (.int .u8 0), PV.sc (.int .u8 0), PV.sc (.int .u8 0), PV.sc (.int .u8 0), PV.sc (.int .u8 0), PV.sc (.int .u8 0), PV.sc (.int .u8 0), PV.sc (.int .u8 0), PV.sc (.int .u8 0), PV.sc (.int .u8 0), PV.sc (.int .u8 0), PV.sc (.int .u8 0), PV.sc (.int .u8 0), PV.sc (.int .u8 0), PV.sc (.int .u8 0), PV.sc (.int .u8 0), PV.sc (.int .u8 0), PV.sc (.int .u8 0), PV.sc (.int .u8 0), PV.sc (.int .u8 0), PV.sc (.int .u8 0), PV.sc (.int .u8 0), PV.sc (.int .u8 0), PV.sc (.int .u8 0), PV.sc (.int .u8 0), PV.sc (.int .u8 0), PV.sc (.int .u8 0), PV.sc (.int .u8 0), PV.sc (.int .u8 0), PV.sc (.int .u8 0), PV.sc (.int .u8 0), PV.sc (.int .u8 0), PV.sc (.int .u8 0), PV.sc (.int .u8 0), PV.sc (.int .u8 0), PV.sc (.int .u8 0), PV.sc (.int .u8 0), PV.sc (.int .u8 0), PV.sc (.int .u8 0), PV.sc (.int .u8 0), PV.sc (.int .u8 0), PV.sc (.int .u8 0), PV.sc (.int .u8 0), PV.sc (.int .u8 0), PV.sc (.int .u8 0), PV.sc (.int .u8 0), PV.sc (.int .u8 0), PV.sc (.int .u8 0), PV.sc (.int .u8 0), PV.sc (.int .u8 0), PV.sc (.int .u8 0), PV.sc (.int .u8 0), PV.sc (.int .u8 0), PV.sc (.int .u8 0), PV.sc (.int .u8 0), PV.sc (.int .u8 0)])) 54)) :: parts))))))]).length ≤ 140737488355000) then k (Res.mk (PV.ar 37 (pu IntKind.u8 (sumP (ints (flat [PV.ro 5 false false (pu IntKind.u8 (xorB (ints (List.take 64 (List.take 32 (pu IntKind.u8 (sumP (ints (flat [PV.ro 5 key_z key_f key]))))) ++ List.drop (0 + min (List.take 32 (pu IntKind.u8 (sumP (ints (flat [PV.ro 5 key_z key_f key]))))).length 64) [PV.sc (.int .u8 0), PV.sc (.int .u8 0), PV.sc (.int .u8 0), PV.sc (.int .u8 0), PV.sc (.int .u8 0), PV.sc (.int .u8 0), PV.sc (.int .u8 0), PV.sc (.int .u8 0), PV.sc (.int .u8 0), PV.sc (.int .u8 0), PV.sc (.int .u8 0), PV.sc (.int .u8 0), PV.sc (.int .u8 0), PV.sc (.int .u8 0), PV.sc (.int .u8 0), PV.sc (.int .u8 0), PV.sc (.int .u8 0), PV.sc (.int .u8 0), PV.sc (.int .u8 0), PV.sc (.int .u8 0), PV.sc (.int .u8 0), PV.sc (.int .u8 0), PV.sc (.int .u8 0), PV.sc (.int .u8 0), PV.sc (.int .u8 0), PV.sc (.int .u8 0), PV.sc (.int .u8 0), PV.sc (.int .u8 0), PV.sc (.int .u8 0), PV.sc (.int .u8 0), PV.sc (.int .u8 0), PV.sc (.int .u8 0), PV.sc (.int .u8 0), PV.sc (.int .u8 0), PV.sc (.int .u8 0), PV.sc (.int .u8 0), PV.sc (.int .u8 0), PV.sc (.int .u8 0), PV.sc (.int .u8 0), PV.sc (.int .u8 0), PV.sc (.int .u8 0), PV.sc (.int .u8 0), PV.sc (.int .u8 0), PV.sc (.int .u8 0), PV.sc (.int .u8 0), PV.sc (.int .u8 0), PV.sc (.int .u8 0), PV.sc (.int .u8 0), PV.sc (.int .u8 0), PV.sc (.int .u8 0), PV.sc (.int .u8 0), PV.sc (.int .u8 0), PV.sc (.int .u8 0), PV.sc (.int .u8 0), PV.sc (.int .u8 0), PV.sc (.int .u8 0), PV.sc (.int .u8 0), PV.sc (.int .u8 0), PV.sc (.int .u8 0), PV.sc (.int .u8 0), PV.sc (.int .u8 0), PV.sc (.int .u8 0), PV.sc (.int .u8 0), PV.sc (.int .u8 0)])) 92)), PV.ro 5 false false (List.take 32 (pu IntKind.u8 (sumP (ints (flat (PV.ro 5 false false (pu IntKind.u8 (xorB (ints (List.take 64 (List.take 32 (pu IntKind.u8 (sumP (ints (flat [PV.ro 5 key_z key_f key]))))) ++ List.drop (0 + min (List.take 32 (pu IntKind.u8 (sumP (ints (flat [PV.ro 5 key_z key_f key]))))).length 64) [PV.sc (.int .u8 0), PV.sc (.int .u8 0), PV.sc (.int .u8 0), PV.sc (.int .u8 0), PV.sc (.int .u8 0), PV.sc (.int .u8 0), PV.sc (.int .u8 0), PV.sc (.int .u8 0), PV.sc (.int .u8 0), PV.sc (.int .u8 0), PV.sc (.int .u8 0), PV.sc (.int .u8 0), PV.sc (.int .u8 0), PV.sc (.int .u8 0), PV.sc (.int .u8 0), PV.sc (.int .u8 0), PV.sc (.int .u8 0), PV.sc (.int .u8 0), PV.sc (.int .u8 0), PV.sc (.int .u8 0), PV.sc (.int .u8 0), PV.sc (.int .u8 0), PV.sc (.int .u8 0), PV.sc (.int .u8 0), PV.sc (.int .u8 0), PV.sc (.int .u8 0), PV.sc (.int .u8 0), PV.sc (.int .u8 0), PV.sc (.int .u8 0), PV.sc (.int .u8 0), PV.sc (.int .u8 0), PV.sc (.int .u8 0), PV.sc (.int .u8 0), PV.sc (.int .u8 0), PV.sc (.int .u8 0), PV.sc (.int .u8 0), PV.sc (.int .u8 0), PV.sc (.int .u8 0), PV.sc (.int .u8 0), PV.sc (.int .u8 0), PV.sc (.int .u8 0), PV.sc (.int .u8 0), PV.sc (.int .u8 0), PV.sc (.int .u8 0), PV.sc (.int .u8 0), PV.sc (.int .u8 0), PV.sc (.int .u8 0), PV.sc (.int .u8 0), PV.sc (.int .u8 0), PV.sc (.int .u8 0), PV.sc (.int .u8 0), PV.sc (.int .u8 0), PV.sc (.int .u8 0), PV.sc (.int .u8 0), PV.sc (.int .u8 0), PV.sc (.int .u8 0), PV.sc (.int .u8 0), PV.sc (.int .u8 0), PV.sc (.int .u8 0), PV.sc (.int .u8 0), PV.sc (.int .u8 0), PV.sc (.int .u8 0), PV.sc (.int .u8 0), PV.sc (.int .u8 0)])) 54)) :: parts))))))]))))) [] []) else none else none else none else none else none else none else none else bif parts_z then bif allInt IntKind.u8 (List.take 64 key ++ List.drop (0 + min key.length 64) [PV.sc (.int .u8 0), PV.sc (.int .u8 0), PV.sc (.int .u8 0), PV.sc (.int .u8 0), PV.sc (.int .u8 0), PV.sc (.int .u8 0), PV.sc (.int .u8 0), PV.sc (.int .u8 0), PV.sc (.int .u8 0), PV.sc (.int .u8 0), PV.sc (.int .u8 0), PV.sc (.int .u8 0), PV.sc (.int .u8 0), PV.sc (.int .u8 0), PV.sc (.int .u8 0), PV.sc (.int .u8 0), PV.sc (.int .u8 0), PV.sc (.int .u8 0), PV.sc (.int .u8 0), PV.sc (.int .u8 0), PV.sc (.int .u8 0), PV.sc (.int .u8 0), PV.sc (.int .u8 0), PV.sc (.int .u8 0), PV.sc (.int .u8 0), PV.sc (.int .u8 0), PV.sc (.int .u8 0), PV.sc (.int .u8 0), PV.sc (.int .u8 0), PV.sc (.int .u8 0), PV.sc (.int .u8 0), PV.sc (.int .u8 0), PV.sc (.int .u8 0), PV.sc (.int .u8 0), PV.sc (.int .u8 0), PV.sc (.int .u8 0), PV.sc (.int .u8 0), PV.sc (.int .u8 0), PV.sc (.int .u8 0), PV.sc (.int .u8 0), PV.sc (.int .u8 0), PV.sc (.int .u8 0), PV.sc (.int .u8 0), PV.sc (.int .u8 0), PV.sc (.int .u8 0), PV.sc (.int .u8 0), PV.sc (.int .u8 0), PV.sc (.int .u8 0), PV.sc (.int .u8 0), PV.sc (.int .u8 0), PV.sc (.int .u8 0), PV.sc (.int .u8 0), PV.sc (.int .u8 0), PV.sc (.int .u8 0), PV.sc (.int .u8 0), PV.sc (.int .u8 0), PV.sc (.int .u8 0), PV.sc (.int .u8 0), PV.sc (.int .u8 0), PV.sc (.int .u8 0), PV.sc (.int .u8 0), PV.sc (.int .u8 0), PV.sc (.int .u8 0), PV.sc (.int .u8 0)]) && decide ((List.take 64 key ++ List.drop (0 + min key.length 64) [PV.sc (.int .u8 0), PV.sc (.int .u8 0), PV.sc (.int .u8 0), PV.sc (.int .u8 0), PV.sc (.int .u8 0), PV.sc (.int .u8 0), PV.sc (.int .u8 0), PV.sc (.int .u8 0), PV.sc (.int .u8 0), PV.sc (.int .u8 0), PV.sc (.int .u8 0), PV.sc (.int .u8 0), PV.sc (.int .u8 0), PV.sc (.int .u8 0), PV.sc (.int .u8 0), PV.sc (.int .u8 0), PV.sc (.int .u8 0), PV.sc (.int .u8 0), PV.sc (.int .u8 0), PV.sc (.int .u8 0), PV.sc (.int .u8 0), PV.sc (.int .u8 0), PV.sc (.int .u8 0), PV.sc (.int .u8 0), PV.sc (.int .u8 0), PV.sc (.int .u8 0), PV.sc (.int .u8 0), PV.sc (.int .u8 0), PV.sc (.int .u8 0), PV.sc (.int .u8 0), PV.sc (.int .u8 0), PV.sc (.int .u8 0), PV.sc (.int .u8 0), PV.sc (.int .u8 0), PV.sc (.int .u8 0), PV.sc (.int .u8 0), PV.sc (.int .u8 0), PV.sc (.int .u8 0), PV.sc (.int .u8 0), PV.sc (.int .u8 0), PV.sc (.int .u8 0), PV.sc (.int .u8 0), PV.sc (.int .u8 0), PV.sc (.int .u8 0), PV.sc (.int .u8 0), PV.sc (.int .u8 0), PV.sc (.int .u8 0), PV.sc (.int .u8 0), PV.sc (.int .u8 0), PV.sc (.int .u8 0), PV.sc (.int .u8 0), PV.sc (.int .u8 0), PV.sc (.int .u8 0), PV.sc (.int .u8 0), PV.sc (.int .u8 0), PV.sc (.int .u8 0), PV.sc (.int .u8 0), PV.sc (.int .u8 0), PV.sc (.int .u8 0), PV.sc (.int .u8 0), PV.sc (.int .u8 0), PV.sc (.int .u8 0), PV.sc (.int .u8 0), PV.sc (.int .u8 0)]).length = 64) && true then bif allInt IntKind.u8 (flat [PV.ro 5 false false (pu IntKind.u8 (xorB (ints (List.take 64 key ++ List.drop (0 + min key.length 64) [PV.sc (.int .u8 0), PV.sc (.int .u8 0), PV.sc (.int .u8 0), PV.sc (.int .u8 0), PV.sc (.int .u8 0), PV.sc (.int .u8 0), PV.sc (.int .u8 0), PV.sc (.int .u8 0), PV.sc (.int .u8 0), PV.sc (.int .u8 0), PV.sc (.int .u8 0), PV.sc (.int .u8 0), PV.sc (.int .u8 0), PV.sc (.int .u8 0), PV.sc (.int .u8 0), PV.sc (.int .u8 0), PV.sc (.int .u8 0), PV.sc (.int .u8 0), PV.sc (.int .u8 0), PV.sc (.int .u8 0), PV.sc (.int .u8 0), PV.sc (.int .u8 0), PV.sc (.int .u8 0), PV.sc (.int .u8 0), PV.sc (.int .u8 0), PV.sc (.int .u8 0), PV.sc (.int .u8 0), PV.sc (.int .u8 0), PV.sc (.int .u8 0), PV.sc (.int .u8 0), PV.sc (.int .u8 0), PV.sc (.int .u8 0), PV.sc (.int .u8 0), PV.sc (.int .u8 0), PV.sc (.int .u8 0), PV.sc (.int .u8 0), PV.sc (.int .u8 0), PV.sc (.int .u8 0), PV.sc (.int .u8 0), PV.sc (.int .u8 0), PV.sc (.int .u8 0), PV.sc (.int .u8 0), PV.sc (.int .u8 0), PV.sc (.int .u8 0), PV.sc (.int .u8 0), PV.sc (.int .u8 0), PV.sc (.int .u8 0), PV.sc (.int .u8 0), PV.sc (.int .u8 0), PV.sc (.int .u8 0), PV.sc (.int .u8 0), PV.sc (.int .u8 0), PV.sc (.int .u8 0), PV.sc (.int .u8 0), PV.sc (.int .u8 0), PV.sc (.int .u8 0), PV.sc (.int .u8 0), PV.sc (.int .u8 0), PV.sc (.int .u8 0), PV.sc (.int .u8 0), PV.sc (.int .u8 0), PV.sc (.int .u8 0), PV.sc (.int .u8 0), PV.sc (.int .u8 0)])) 54))]) && decide ((flat [PV.ro 5 false false (pu IntKind.u8 (xorB (ints (List.take 64 key ++ List.drop (0 + min key.length 64) [PV.sc (.int .u8 0), PV.sc (.int .u8 0), PV.sc (.int .u8 0), PV.sc (.int .u8 0), PV.sc (.int .u8 0), PV.sc (.int .u8 0), PV.sc (.int .u8 0), PV.sc (.int .u8 0), PV.sc (.int .u8 0), PV.sc (.int .u8 0), PV.sc (.int .u8 0), PV.sc (.int .u8 0), PV.sc (.int .u8 0), PV.sc (.int .u8 0), PV.sc (.int .u8 0), PV.sc (.int .u8 0), PV.sc (.int .u8 0), PV.sc (.int .u8 0), PV.sc (.int .u8 0), PV.sc (.int .u8 0), PV.sc (.int .u8 0), PV.sc (.int .u8 0), PV.sc (.int .u8 0), PV.sc (.int .u8 0), PV.sc (.int .u8 0), PV.sc (.int .u8 0), PV.sc (.int .u8 0), PV.sc (.int .u8 0), PV.sc (.int .u8 0), PV.sc (.int .u8 0), PV.sc (.int .u8 0), PV.sc (.int .u8 0), PV.sc (.int .u8 0), PV.sc (.int .u8 0), PV.sc (.int .u8 0), PV.sc (.int .u8 0), PV.sc (.int .u8 0), PV.sc (.int .u8 0), PV.sc (.int .u8 0), PV.sc (.int .u8 0), PV.sc (.int .u8 0), PV.sc (.int .u8 0), PV.sc (.int .u8 0), PV.sc (.int .u8 0), PV.sc (.int .u8 0), PV.sc (.int .u8 0), PV.sc (.int .u8 0), PV.sc (.int .u8 0), PV.sc (.int .u8 0), PV.sc (.int .u8 0), PV.sc (.int .u8 0), PV.sc (.int .u8 0), PV.sc (.int .u8 0), PV.sc (.int .u8 0), PV.sc (.int .u8 0), PV.sc (.int .u8 0), PV.sc (.int .u8 0), PV.sc (.int .u8 0), PV.sc (.int .u8 0), PV.sc (.int .u8 0), PV.sc (.int .u8 0), PV.sc (.int .u8 0), PV.sc (.int .u8 0), PV.sc (.int .u8 0)])) 54))]).length ≤ 140737488355000) then bif allInt IntKind.u8 (List.take 64 key ++ List.drop (0 + min key.length 64) [PV.sc (.int .u8 0), PV.sc (.int .u8 0), PV.sc (.int .u8 0), PV.sc (.int .u8 0), PV.sc (.int .u8 0), PV.sc (.int .u8 0), PV.sc (.int .u8 0), PV.sc (.int .u8 0), PV.sc (.int .u8 0), PV.sc (.int .u8 0), PV.sc (.int .u8 0), PV.sc (.int .u8 0), PV.sc (.int .u8 0), PV.sc (.int .u8 0), PV.sc (.int .u8 0), PV.sc (.int .u8 0), PV.sc (.int .u8 0), PV.sc (.int .u8 0), PV.sc (.int .u8 0), PV.sc (.int .u8 0), PV.sc (.int .u8 0), PV.sc (.int .u8 0), PV.sc (.int .u8 0), PV.sc (.int .u8 0), PV.sc (.int .u8 0), PV.sc (.int .u8 0), PV.sc (.int .u8 0), PV.sc (.int .u8 0), PV.sc (.int .u8 0), PV.sc (.int .u8 0), PV.sc (.int .u8 0), PV.sc (.int .u8 0), PV.sc (.int .u8 0), PV.sc (.int .u8 0), PV.sc (.int .u8 0), PV.sc (.int .u8 0), PV.sc (.int .u8 0), PV.sc (.int .u8 0), PV.sc (.int .u8 0), PV.sc (.int .u8 0), PV.sc (.int .u8 0), PV.sc (.int .u8 0), PV.sc (.int .u8 0), PV.sc (.int .u8 0), PV.sc (.int .u8 0), PV.sc (.int .u8 0), PV.sc (.int .u8 0), PV.sc (.int .u8 0), PV.sc (.int .u8 0), PV.sc (.int .u8 0), PV.sc (.int .u8 0), PV.sc (.int .u8 0), PV.sc (.int .u8 0), PV.sc (.int .u8 0), PV.sc (.int .u8 0), PV.sc (.int .u8 0), PV.sc (.int .u8 0), PV.sc (.int .u8 0), PV.sc (.int .u8 0), PV.sc (.int .u8 0), PV.sc (.int .u8 0), PV.sc (.int .u8 0), PV.sc (.int .u8 0), PV.sc (.int .u8 0)]) && decide ((List.take 64 key ++ List.drop (0 + min key.length 64) [PV.sc (.int .u8 0), PV.sc (.int .u8 0), PV.sc (.int .u8 0), PV.sc (.int .u8 0), PV.sc (.int .u8 0), PV.sc (.int .u8 0), PV.sc (.int .u8 0), PV.sc (.int .u8 0), PV.sc (.int .u8 0), PV.sc (.int .u8 0), PV.sc (.int .u8 0), PV.sc (.int .u8 0), PV.sc (.int .u8 0), PV.sc (.int .u8 0), PV.sc (.int .u8 0), PV.sc (.int .u8 0), PV.sc (.int .u8 0), PV.sc (.int .u8 0), PV.sc (.int .u8 0), PV.sc (.int .u8 0), PV.sc (.int .u8 0), PV.sc (.int .u8 0), PV.sc (.int .u8 0), PV.sc (.int .u8 0), PV.sc (.int .u8 0), PV.sc (.int .u8 0), PV.sc (.int .u8 0), PV.sc (.int .u8 0), PV.sc (.int .u8 0), PV.sc (.int .u8 0), PV.sc (.int .u8 0), PV.sc (.int .u8 0), PV.sc (.int .u8 0), PV.sc (.int .u8 0), PV.sc (.int .u8 0), PV.sc (.int .u8 0), PV.sc (.int .u8 0), PV.sc (.int .u8 0), PV.sc (.int .u8 0), PV.sc (.int .u8 0), PV.sc (.int .u8 0), PV.sc (.int .u8 0), PV.sc (.int .u8 0), PV.sc (.int .u8 0), PV.sc (.int .u8 0), PV.sc (.int .u8 0), PV.sc (.int .u8 0), PV.sc (.int .u8 0), PV.sc (.int .u8 0), PV.sc (.int .u8 0), PV.sc (.int .u8 0), PV.sc (.int .u8 0), PV.sc (.int .u8 0), PV.sc (.int .u8 0), PV.sc (.int .u8 0), PV.sc (.int .u8 0), PV.sc (.int .u8 0), PV.sc (.int .u8 0), PV.sc (.int .u8 0), PV.sc (.int .u8 0), PV.sc (.int .u8 0), PV.sc (.int .u8 0), PV.sc (.int .u8 0), PV.sc (.int .u8 0)]).length = 64) && true then bif allInt IntKind.u8 (flat [PV.ro 5 false false (pu IntKind.u8 (xorB (ints (List.take 64 key ++ List.drop (0 + min key.length 64) [PV.sc (.int .u8 0), PV.sc (.int .u8 0), PV.sc (.int .u8 0), PV.sc (.int .u8 0), PV.sc (.int .u8 0), PV.sc (.int .u8 0), PV.sc (.int .u8 0), PV.sc (.int .u8 0), PV.sc (.int .u8 0), PV.sc (.int .u8 0), PV.sc (.int .u8 0), PV.sc (.int .u8 0), PV.sc (.int .u8 0), PV.sc (.int .u8 0), PV.sc (.int .u8 0), PV.sc (.int .u8 0), PV.sc (.int .u8 0), PV.sc (.int .u8 0), PV.sc (.int .u8 0), PV.sc (.int .u8 0), PV.sc (.int .u8 0), PV.sc (.int .u8 0), PV.sc (.int .u8 0), PV.sc (.int .u8 0), PV.sc (.int .u8 0), PV.sc (.int .u8 0), PV.sc (.int .u8 0), PV.sc (.int .u8 0), PV.sc (.int .u8 0), PV.sc (.int .u8 0), PV.sc (.int .u8 0), PV.sc (.int .u8 0), PV.sc (.int .u8 0), PV.sc (.int .u8 0), PV.sc (.int .u8 0), PV.sc (.int .u8 0), PV.sc (.int .u8 0), PV.sc (.int .u8 0), PV.sc (.int .u8 0), PV.sc (.int .u8 0), PV.sc (.int .u8 0), PV.sc (.int .u8 0), PV.sc (.int .u8 0), PV.sc (.int .u8 0), PV.sc (.int .u8 0), PV.sc (.int .u8 0), PV.sc (.int .u8 0), PV.sc (.int .u8 0), PV.sc (.int .u8 0), PV.sc (.int .u8 0), PV.sc (.int .u8 0), PV.sc (.int .u8 0), PV.sc (.int .u8 0), PV.sc (.int .u8 0), PV.sc (.int .u8 0), PV.sc (.int .u8 0), PV.sc (.int .u8 0), PV.sc (.int .u8 0), PV.sc (.int .u8 0), PV.sc (.int .u8 0), PV.sc (.int .u8 0), PV.sc (.int .u8 0), PV.sc (.int .u8 0), PV.sc (.int .u8 0)])) 92)), PV.ro 5 false false (List.take 32 (pu IntKind.u8 (sumP (ints (flat [PV.ro 5 false false (pu IntKind.u8 (xorB (ints (List.take 64 key ++ List.drop (0 + min key.length 64) [PV.sc (.int .u8 0), PV.sc (.int .u8 0), PV.sc (.int .u8 0), PV.sc (.int .u8 0), PV.sc (.int .u8 0), PV.sc (.int .u8 0), PV.sc (.int .u8 0), PV.sc (.int .u8 0), PV.sc (.int .u8 0), PV.sc (.int .u8 0), PV.sc (.int .u8 0), PV.sc (.int .u8 0), PV.sc (.int .u8 0), PV.sc (.int .u8 0), PV.sc (.int .u8 0), PV.sc (.int .u8 0), PV.sc (.int .u8 0), PV.sc (.int .u8 0), PV.sc (.int .u8 0), PV.sc (.int .u8 0), PV.sc (.int .u8 0), PV.sc (.int .u8 0), PV.sc (.int .u8 0), PV.sc (.int .u8 0), PV.sc (.int .u8 0), PV.sc (.int .u8 0), PV.sc (.int .u8 0), PV.sc (.int .u8 0), PV.sc (.int .u8 0), PV.sc (.int .u8 0), PV.sc (.int .u8 0), PV.sc (.int .u8 0), PV.sc (.int .u8 0), PV.sc (.int .u8 0), PV.sc (.int .u8 0), PV.sc (.int .u8 0), PV.sc (.int .u8 0), PV.sc (.int .u8 0), PV.sc (.int .u8 0), PV.sc (.int .u8 0), PV.sc (.int .u8 0), PV.sc (.int .u8 0), PV.sc (.int .u8 0), PV.sc (.int .u8 0), PV.sc (.int .u8 0), PV.sc (.int .u8 0), PV.sc (.int .u8 0), PV.sc (.int .u8 0), PV.sc (.int .u8 0), PV.sc (.int .u8 0), PV.sc (.int .u8 0), PV.sc (.int .u8 0), PV.sc (.int .u8 0), PV.sc (.int .u8 0), PV.sc (.int .u8 0), PV.sc (.int .u8 0), PV.sc (.int .u8 0), PV.sc (.int .u8 0), PV.sc (.int .u8 0), PV.sc (.int .u8 0), PV.sc (.int .u8 0), PV.sc (.int .u8 0), PV.sc (.int .u8 0), PV.sc (.int .u8 0)])) 54))])))))]) && decide ((flat [PV.ro 5 false false (pu IntKind.u8 (xorB (ints (List.take 64 key ++ List.drop (0 + min key.length 64) [PV.sc (.int .u8 0), PV.sc (.int .u8 0), PV.sc (.int .u8 0), PV.sc (.int .u8 0), PV.sc (.int .u8 0), PV.sc (.int .u8 0), PV.sc (.int .u8 0), PV.sc (.int .u8 0), PV.sc (.int .u8 0), PV.sc (.int .u8 0), PV.sc (.int .u8 0), PV.sc (.int .u8 0), PV.sc (.int .u8 0), PV.sc (.int .u8 0), PV.sc (.int .u8 0), PV.sc (.int .u8 0), PV.sc (.int .u8 0), PV.sc (.int .u8 0), PV.sc (.int .u8 0), PV.sc (.int .u8 0), PV.sc (.int .u8 0), PV.sc (.int .u8 0), PV.sc (.int .u8 0), PV.sc (.int .u8 0), PV.sc (.int .u8 0), PV.sc (.int .u8 0), PV.sc (.int .u8 0), PV.sc (.int .u8 0), PV.sc (.int .u8 0), PV.sc (.int .u8 0), PV.sc (.int .u8 0), PV.sc (.int .u8 0), PV.sc (.int .u8 0), PV.sc (.int .u8 0), PV.sc (.int .u8 0), PV.sc (.int .u8 0), PV.sc (.int .u8 0), PV.sc (.int .u8 0), PV.sc (.int .u8 0), PV.sc (.int .u8 0), PV.sc (.int .u8 0), PV.sc (.int .u8 0), PV.sc (.int .u8 0), PV.sc (.int .u8 0), PV.sc (.int .u8 0), PV.sc (.int .u8 0), PV.sc (.int .u8 0), PV.sc (.int .u8 0), PV.sc (.int .u8 0), PV.sc (.int .u8 0), PV.sc (.int .u8 0), PV.sc (.int .u8 0), PV.sc (.int .u8 0), PV.sc (.int .u8 0), PV.sc (.int .u8 0), PV.sc (.int .u8 0), PV.sc (.int .u8 0), PV.sc (.int .u8 0), PV.sc (.int .u8 0), PV.sc (.int .u8 0), PV.sc (.int .u8 0), PV.sc (.int .u8 0), PV.sc (.int .u8 0), PV.sc (.int .u8 0)])) 92)), PV.ro 5 false false (List.take 32 (pu IntKind.u8 (sumP (ints (flat [PV.ro 5 false false (pu IntKind.u8 (xorB (ints (List.take 64 key ++ List.drop (0 + min key.length 64) [PV.sc (.int .u8 0), PV.sc (.int .u8 0), PV.sc (.int .u8 0), PV.sc (.int .u8 0), PV.sc (.int .u8 0), PV.sc (.int .u8 0), PV.sc (.int .u8 0), PV.sc (.int .u8 0), PV.sc (.int .u8 0), PV.sc (.int .u8 0), PV.sc (.int .u8 0), PV.sc (.int .u8 0), PV.sc (.int .u8 0), PV.sc (.int .u8 0), PV.sc (.int .u8 0), PV.sc (.int .u8 0), PV.sc (.int .u8 0), PV.sc (.int .u8 0), PV.sc (.int .u8 0), PV.sc (.int .u8 0), PV.sc (.int .u8 0), PV.sc (.int .u8 0), PV.sc (.int .u8 0), PV.sc (.int .u8 0), PV.sc (.int .u8 0), PV.sc (.int .u8 0), PV.sc (.int .u8 0), PV.sc (.int .u8 0), PV.sc (.int .u8 0), PV.sc (.int .u8 0), PV.sc (.int .u8 0), PV.sc (.int .u8 0), PV.sc (.int .u8 0), PV.sc (.int .u8 0), PV.sc (.int .u8 0), PV.sc (.int .u8 0), PV.sc (.int .u8 0), PV.sc (.int .u8 0), PV.sc (.int .u8 0), PV.sc (.int .u8 0), PV.sc (.int .u8 0), PV.sc (.int .u8 0), PV.sc (.int .u8 0), PV.sc (.int .u8 0), PV.sc (.int .u8 0), PV.sc (.int .u8 0), PV.sc (.int .u8 0), PV.sc (.int .u8 0), PV.sc (.int .u8 0), PV.sc (.int .u8 0), PV.sc (.int .u8 0), PV.sc (.int .u8 0), PV.sc (.int .u8 0), PV.sc (.int .u8 0), PV.sc (.int .u8 0), PV.sc (.int .u8 0), PV.sc (.int .u8 0), PV.sc (.int .u8 0), PV.sc (.int .u8 0), PV.sc (.int .u8 0), PV.sc (.int .u8 0), PV.sc (.int .u8 0), PV.sc (.int .u8 0), PV.sc (.int .u8 0)])) 54))])))))]).length ≤ 140737488355000) then k (Res.mk (PV.ar 37 (pu IntKind.u8 (sumP (ints (flat [PV.ro 5 false false (pu IntKind.u8 (xorB (ints (List.take 64 key ++ List.drop (0 + min key.length 64) [PV.sc (.int .u8 0), PV.sc (.int .u8 0), PV.sc (.int .u8 0), PV.sc (.int .u8 0), PV.sc (.int .u8 0), PV.sc (.int .u8 0), PV.sc (.int .u8 0), PV.sc (.int .u8 0), PV.sc (.int .u8 0), PV.sc (.int .u8 0), PV.sc (.int .u8 0), PV.sc (.int .u8 0), PV.sc (.int .u8 0), PV.sc (.int .u8 0), PV.sc (.int .u8 0), PV.sc (.int .u8 0), PV.sc (.int .u8 0), PV.sc (.int .u8 0), PV.sc (.int .u8 0), PV.sc (.int .u8 0), PV.sc (.int .u8 0), PV.sc (.int .u8 0), PV.sc (.int .u8 0), PV.sc (.int .u8 0), PV.sc (.int .u8 0), PV.sc (.int .u8 0), PV.sc (.int .u8 0), PV.sc (.int .u8 0), PV.sc (.int .u8 0), PV.sc (.int .u8 0), PV.sc (.int .u8 0), PV.sc (.int .u8 0), PV.sc (.int .u8 0), PV.sc (.int .u8 0), PV.sc (.int .u8 0), PV.sc (.int .u8 0), PV.sc (.int .u8 0), PV.sc (.int .u8 0), PV.sc (.int .u8 0), PV.sc (.int .u8 0), PV.sc (.int .u8 0), PV.sc (.int .u8 0), PV.sc (.int .u8 0), PV.sc (.int .u8 0), PV.sc (.int .u8 0), PV.sc (.int .u8 0), PV.sc (.int .u8 0), PV.sc (.int .u8 0), PV.sc (.int .u8 0), PV.sc (.int .u8 0), PV.sc (.int .u8 0), PV.sc (.int .u8 0), PV.sc (.int .u8 0), PV.sc (.int .u8 0), PV.sc (.int .u8 0), PV.sc (.int .u8 0), PV.sc (.int .u8 0), PV.sc (.int .u8 0), PV.sc (.int .u8 0), PV.sc (.int .u8 0), PV.sc (.int .u8 0), PV.sc (.int .u8 0), PV.sc (.int .u8 0), PV.sc (.int .u8 0)])) 92)), PV.ro 5 false false (List.take 32 (pu IntKind.u8 (sumP (ints (flat [PV.ro 5 false false (pu IntKind.u8 (xorB (ints (List.take 64 key ++ List.drop (0 + min key.length 64) [PV.sc (.int .u8 0), PV.sc (.int .u8 0), PV.sc (.int .u8 0), PV.sc (.int .u8 0), PV.sc (.int .u8 0), PV.sc (.int .u8 0), PV.sc (.int .u8 0), PV.sc (.int .u8 0), PV.sc (.int .u8 0), PV.sc (.int .u8 0), PV.sc (.int .u8 0), PV.sc (.int .u8 0), PV.sc (.int .u8 0), PV.sc (.int .u8 0), PV.sc (.int .u8 0), PV.sc (.int .u8 0), PV.sc (.int .u8 0), PV.sc (.int .u8 0), PV.sc (.int .u8 0), PV.sc (.int .u8 0), PV.sc (.int .u8 0), PV.sc (.int .u8 0), PV.sc (.int .u8 0), PV.sc (.int .u8 0), PV.sc (.int .u8 0), PV.sc (.int .u8 0), PV.sc (.int .u8 0), PV.sc (.int .u8 0), PV.sc (.int .u8 0), PV.sc (.int .u8 0), PV.sc (.int .u8 0), PV.sc (.int .u8 0), PV.sc (.int .u8 0), PV.sc (.int .u8 0), PV.sc (.int .u8 0), PV.sc (.int .u8 0), PV.sc (.int .u8 0), PV.sc (.int .u8 0), PV.sc (.int .u8 0), PV.sc (.int .u8 0), PV.sc (.int .u8 0), PV.sc (.int .u8 0), PV.sc (.int .u8 0), PV.sc (.int .u8 0), PV.sc (.int .u8 0), PV.sc (.int .u8 0), PV.sc (.int .u8 0), PV.sc (.int .u8 0), PV.sc (.int .u8 0), PV.sc (.int .u8 0), PV.sc (.int .u8 0), PV.sc (.int .u8 0), PV.sc (.int .u8 0), PV.sc (.int .u8 0), PV.sc (.int .u8 0), PV.sc (.int .u8 0), PV.sc (.int .u8 0), PV.sc (.int .u8 0), PV.sc (.int .u8 0), PV.sc (.int .u8 0), PV.sc (.int .u8 0), PV.sc (.int .u8 0), PV.sc (.int .u8 0), PV.sc (.int .u8 0)])) 54))])))))]))))) [] []) else none else none else none else none else bif roomy (0 + parts.length) 24 && true then bif allInt IntKind.u8 (List.take 64 key ++ List.drop (0 + min key.length 64) [PV.sc (.int .u8 0), PV.sc (.int .u8 0), PV.sc (.int .u8 0), PV.sc (.int .u8 0), PV.sc (.int .u8 0), PV.sc (.int .u8 0), PV.sc (.int .u8 0), PV.sc (.int .u8 0), PV.sc (.int .u8 0), PV.sc (.int .u8 0), PV.sc (.int .u8 0), PV.sc (.int .u8 0), PV.sc (.int .u8 0), PV.sc (.int .u8 0), PV.sc (.int .u8 0), PV.sc (.int .u8 0), PV.sc (.int .u8 0), PV.sc (.int .u8 0), PV.sc (.int .u8 0), PV.sc (.int .u8 0), PV.sc (.int .u8 0), PV.sc (.int .u8 0), PV.sc (.int .u8 0), PV.sc (.int .u8 0), PV.sc (.int .u8 0), PV.sc (.int .u8 0), PV.sc (.int .u8 0), PV.sc (.int .u8 0), PV.sc (.int .u8 0), PV.sc (.int .u8 0), PV.sc (.int .u8 0), PV.sc (.int .u8 0), PV.sc (.int .u8 0), PV.sc (.int .u8 0), PV.sc (.int .u8 0), PV.sc (.int .u8 0), PV.sc (.int .u8 0), PV.sc (.int .u8 0), PV.sc (.int .u8 0), PV.sc (.int .u8 0), PV.sc (.int .u8 0), PV.sc (.int .u8 0), PV.sc (.int .u8 0), PV.sc (.int .u8 0), PV.sc (.int .u8 0), PV.sc (.int .u8 0), PV.sc (.int .u8 0), PV.sc (.int .u8 0), PV.sc (.int .u8 0), PV.sc (.int .u8 0), PV.sc (.int .u8 0), PV.sc (.int .u8 0), PV.sc (.int .u8 0), PV.sc (.int .u8 0), PV.sc (.int .u8 0), PV.sc (.int .u8 0), PV.sc (.int .u8 0), PV.sc (.int .u8 0), PV.sc (.int .u8 0), PV.sc (.int .u8 0), PV.sc (.int .u8 0), PV.sc (.int .u8 0), PV.sc (.int .u8 0), PV.sc (.int .u8 0)]) && decide ((List.take 64 key ++ List.drop (0 + min key.length 64) [PV.sc (.int .u8 0), PV.sc (.int .u8 0), PV.sc (.int .u8 0), PV.sc (.int .u8 0), PV.sc (.int .u8 0), PV.sc (.int .u8 0), PV.sc (.int .u8 0), PV.sc (.int .u8 0), PV.sc (.int .u8 0), PV.sc (.int .u8 0), PV.sc (.int .u8 0), PV.sc (.int .u8 0), PV.sc (.int .u8 0), PV.sc (.int .u8 0), PV.sc (.int .u8 0), PV.sc (.int .u8 0), PV.sc (.int .u8 0), PV.sc (.int .u8 0), PV.sc (.int .u8 0), PV.sc (.int .u8 0), PV.sc (.int .u8 0), PV.sc (.int .u8 0), PV.sc (.int .u8 0), PV.sc (.int .u8 0), PV.sc (.int .u8 0), PV.sc (.int .u8 0), PV.sc (.int .u8 0), PV.sc (.int .u8 0), PV.sc (.int .u8 0), PV.sc (.int .u8 0), PV.sc (.int .u8 0), PV.sc (.int .u8 0), PV.sc (.int .u8 0), PV.sc (.int .u8 0), PV.sc (.int .u8 0), PV.sc (.int .u8 0), PV.sc (.int .u8 0), PV.sc (.int .u8 0), PV.sc (.int .u8 0), PV.sc (.int .u8 0), PV.sc (.int .u8 0), PV.sc (.int .u8 0), PV.sc (.int .u8 0), PV.sc (.int .u8 0), PV.sc (.int .u8 0), PV.sc (.int .u8 0), PV.sc (.int .u8 0), PV.sc (.int .u8 0), PV.sc (.int .u8 0), PV.sc (.int .u8 0), PV.sc (.int .u8 0), PV.sc (.int .u8 0), PV.sc (.int .u8 0), PV.sc (.int .u8 0), PV.sc (.int .u8 0), PV.sc (.int .u8 0), PV.sc (.int .u8 0), PV.sc (.int .u8 0), PV.sc (.int .u8 0), PV.sc (.int .u8 0), PV.sc (.int .u8 0), PV.sc (.int .u8 0), PV.sc (.int .u8 0), PV.sc (.int .u8 0)]).length = 64) && true then bif decide (0 + parts.length = parts.length) && decide (parts.length ≤ 1000000000) then bif parts.all (PV.isRo 5) && decide ((PV.ro 5 false false (pu IntKind.u8 (xorB (ints (List.take 64 key ++ List.drop (0 + min key.length 64) [PV.sc (.int .u8 0), PV.sc (.int .u8 0), PV.sc (.int .u8 0), PV.sc (.int .u8 0), PV.sc (.int .u8 0), PV.sc (.int .u8 0), PV.sc (.int .u8 0), PV.sc (.int .u8 0), PV.sc (.int .u8 0), PV.sc (.int .u8 0), PV.sc (.int .u8 0), PV.sc (.int .u8 0), PV.sc (.int .u8 0), PV.sc (.int .u8 0), PV.sc (.int .u8 0), PV.sc (.int .u8 0), PV.sc (.int .u8 0), PV.sc (.int .u8 0), PV.sc (.int .u8 0), PV.sc (.int .u8 0), PV.sc (.int .u8 0), PV.sc (.int .u8 0), PV.sc (.int .u8 0), PV.sc (.int .u8 0), PV.sc (.int .u8 0), PV.sc (.int .u8 0), PV.sc (.int .u8 0), PV.sc (.int .u8 0), PV.sc (.int .u8 0), PV.sc (.int .u8 0), PV.sc (.int .u8 0), PV.sc (.int .u8 0), PV.sc (.int .u8 0), PV.sc (.int .u8 0), PV.sc (.int .u8 0), PV.sc (.int .u8 0), PV.sc (.int .u8 0), PV.sc (.int .u8 0), PV.sc (.int .u8 0), PV.sc (.int .u8 0), PV.sc (.int .u8 0), PV.sc (.int .u8 0), PV.sc (.int .u8 0), PV.sc (.int .u8 0), PV.sc (.int .u8 0), PV.sc (.int .u8 0), PV.sc (.int .u8 0), PV.sc (.int .u8 0), PV.sc (.int .u8 0), PV.sc (.int .u8 0), PV.sc (.int .u8 0), PV.sc (.int .u8 0), PV.sc (.int .u8 0), PV.sc (.int .u8 0), PV.sc (.int .u8 0), PV.sc (.int .u8 0), PV.sc (.int .u8 0), PV.sc (.int .u8 0), PV.sc (.int .u8 0), PV.sc (.int .u8 0), PV.sc (.int .u8 0), PV.sc (.int .u8 0), PV.sc (.int .u8 0), PV.sc (.int .u8 0)])) 54)) :: parts).length ≤ 140737488355328) && (allInt IntKind.u8 (flat (PV.ro 5 false false (pu IntKind.u8 (xorB (ints (List.take 64 key ++ List.drop (0 + min key.length 64) [PV.sc (.int .u8 0), PV.sc (.int .u8 0), PV.sc (.int .u8 0), PV.sc (.int .u8 0), PV.sc (.int .u8 0), PV.sc (.int .u8 0), PV.sc (.int .u8 0), PV.sc (.int .u8 0), PV.sc (.int .u8 0), PV.sc (.int .u8 0), PV.sc (.int .u8 0), PV.sc (.int .u8 0), PV.sc (.int .u8 0), PV.sc (.int .u8 0), PV.sc (.int .u8 0), PV.sc (.int .u8 0), PV.sc (.int .u8 0), PV.sc (.int .u8 0), PV.sc (.int .u8 0), PV.sc (.int .u8 0), PV.sc (.int .u8 0), PV.sc (.int .u8 0), PV.sc (.int .u8 0), PV.sc (.int .u8 0), PV.sc (.int .u8 0), PV.sc (.int .u8 0), PV.sc (.int .u8 0), PV.sc (.int .u8 0), PV.sc (.int .u8 0), PV.sc (.int .u8 0), PV.sc (.int .u8 0), PV.sc (.int .u8 0), PV.sc (.int .u8 0), PV.sc (.int .u8 0), PV.sc (.int .u8 0), PV.sc (.int .u8 0), PV.sc (.int .u8 0), PV.sc (.int .u8 0), PV.sc (.int .u8 0), PV.sc (.int .u8 0), PV.sc (.int .u8 0), PV.sc (.int .u8 0), PV.sc (.int .u8 0), PV.sc (.int .u8 0), PV.sc (.int .u8 0), PV.sc (.int .u8 0), PV.sc (.int .u8 0), PV.sc (.int .u8 0), PV.sc (.int .u8 0), PV.sc (.int .u8 0), PV.sc (.int .u8 0), PV.sc (.int .u8 0), PV.sc (.int .u8 0), PV.sc (.int .u8 0), PV.sc (.int .u8 0), PV.sc (.int .u8 0), PV.sc (.int .u8 0), PV.sc (.int .u8 0), PV.sc (.int .u8 0), PV.sc (.int .u8 0), PV.sc (.int .u8 0), PV.sc (.int .u8 0), PV.sc (.int .u8 0), PV.sc (.int .u8 0)])) 54)) :: parts)) && decide ((flat (PV.ro 5 false false (pu IntKind.u8 (xorB (ints (List.take 64 key ++ List.drop (0 + min key.length 64) [PV.sc (.int .u8 0), PV.sc (.int .u8 0), PV.sc (.int .u8 0), PV.sc (.int .u8 0), PV.sc (.int .u8 0), PV.sc (.int .u8 0), PV.sc (.int .u8 0), PV.sc (.int .u8 0), PV.sc (.int .u8 0), PV.sc (.int .u8 0), PV.sc (.int .u8 0), PV.sc (.int .u8 0), PV.sc (.int .u8 0), PV.sc (.int .u8 0), PV.sc (.int .u8 0), PV.sc (.int .u8 0), PV.sc (.int .u8 0), PV.sc (.int .u8 0), PV.sc (.int .u8 0), PV.sc (.int .u8 0), PV.sc (.int .u8 0), PV.sc (.int .u8 0), PV.sc (.int .u8 0), PV.sc (.int .u8 0), PV.sc (.int .u8 0), PV.sc (.int .u8 0), PV.sc (.int .u8 0), PV.sc (.int .u8 0), PV.sc (.int .u8 0), PV.sc (.int .u8 0), PV.sc (.int .u8 0), PV.sc (.int .u8 0), PV.sc (.int .u8 0), PV.sc (.int .u8 0), PV.sc (.int .u8 0), PV.sc (.int .u8 0), PV.sc (.int .u8 0), PV.sc (.int .u8 0), PV.sc (.int .u8 0), PV.sc (.int .u8 0), PV.sc (.int .u8 0), PV.sc (.int .u8 0), PV.sc (.int .u8 0), PV.sc (.int .u8 0), PV.sc (.int .u8 0), PV.sc (.int .u8 0), PV.sc (.int .u8 0), PV.sc (.int .u8 0), PV.sc (.int .u8 0), PV.sc (.int .u8 0), PV.sc (.int .u8 0), PV.sc (.int .u8 0), PV.sc (.int .u8 0), PV.sc (.int .u8 0), PV.sc (.int .u8 0), PV.sc (.int .u8 0), PV.sc (.int .u8 0), PV.sc (.int .u8 0), PV.sc (.int .u8 0), PV.sc (.int .u8 0), PV.sc (.int .u8 0), PV.sc (.int .u8 0), PV.sc (.int .u8 0), PV.sc (.int .u8 0)])) 54)) :: parts)).length ≤ 140737488355000)) then bif allInt IntKind.u8 (List.take 64 key ++ List.drop (0 + min key.length 64) [PV.sc (.int .u8 0), PV.sc (.int .u8 0), PV.sc (.int .u8 0), PV.sc (.int .u8 0), PV.sc (.int .u8 0), PV.sc (.int .u8 0), PV.sc (.int .u8 0), PV.sc (.int .u8 0), PV.sc (.int .u8 0), PV.sc (.int .u8 0), PV.sc (.int .u8 0), PV.sc (.int .u8 0), PV.sc (.int .u8 0), PV.sc (.int .u8 0), PV.sc (.int .u8 0), PV.sc (.int .u8 0), PV.sc (.int .u8 0), PV.sc (.int .u8 0), PV.sc (.int .u8 0), PV.sc (.int .u8 0), PV.sc (.int .u8 0), PV.sc (.int .u8 0), PV.sc (.int .u8 0), PV.sc (.int .u8 0), PV.sc (.int .u8 0), PV.sc (.int .u8 0), PV.sc (.int .u8 0), PV.sc (.int .u8 0), PV.sc (.int .u8 0), PV.sc (.int .u8 0), PV.sc (.int .u8 0), PV.sc (.int .u8 0), PV.sc (.int .u8 0), PV.sc (.int .u8 0), PV.sc (.int .u8 0), PV.sc (.int .u8 0), PV.sc (.int .u8 0), PV.sc (.int .u8 0), PV.sc (.int .u8 0), PV.sc (.int .u8 0), PV.sc (.int .u8 0), PV.sc (.int .u8 0), PV.sc (.int .u8 0), PV.sc (.int .u8 0), PV.sc (.int .u8 0), PV.sc (.int .u8 0), PV.sc (.int .u8 0), PV.sc (.int .u8 0), PV.sc (.int .u8 0), PV.sc (.int .u8 0), PV.sc (.int .u8 0), PV.sc (.int .u8 0), PV.sc (.int .u8 0), PV.sc (.int .u8 0), PV.sc (.int .u8 0), PV.sc (.int .u8 0), PV.sc (.int .u8 0), PV.sc (.int .u8 0), PV.sc (.int .u8 0), PV.sc (.int .u8 0), PV.sc (.int .u8 0), PV.sc (.int .u8 0), PV.sc (.int .u8 0), PV.sc (.int .u8 0)]) && decide ((List.take 64 key ++ List.drop (0 + min key.length 64) [PV.sc (.int .u8 0), PV.sc (.int .u8 0), PV.sc (.int .u8 0), PV.sc (.int .u8 0), PV.sc (.int .u8 0), PV.sc (.int .u8 0), PV.sc (.int .u8 0), PV.sc (.int .u8 0), PV.sc (.int .u8 0), PV.sc (.int .u8 0), PV.sc (.int .u8 0), PV.sc (.int .u8 0), PV.sc (.int .u8 0), PV.sc (.int .u8 0), PV.sc (.int .u8 0), PV.sc (.int .u8 0), PV.sc (.int .u8 0), PV.sc (.int .u8 0), PV.sc (.int .u8 0), PV.sc (.int .u8 0), PV.sc (.int .u8 0), PV.sc (.int .u8 0), PV.sc (.int .u8 0), PV.sc (.int .u8 0), PV.sc (.int .u8 0), PV.sc (.int .u8 0), PV.sc (.int .u8 0), PV.sc (.int .u8 0), PV.sc (.int .u8 0), PV.sc (.int .u8 0), PV.sc (.int .u8 0), PV.sc (.int .u8 0), PV.sc (.int .u8 0), PV.sc (.int .u8 0), PV.sc (.int .u8 0), PV.sc (.int .u8 0), PV.sc (.int .u8 0), PV.sc (.int .u8 0), PV.sc (.int .u8 0), PV.sc (.int .u8 0), PV.sc (.int .u8 0), PV.sc (.int .u8 0), PV.sc (.int .u8 0), PV.sc (.int .u8 0), PV.sc (.int .u8 0), PV.sc (.int .u8 0), PV.sc (.int .u8 0), PV.sc (.int .u8 0), PV.sc (.int .u8 0), PV.sc (.int .u8 0), PV.sc (.int .u8 0), PV.sc (.int .u8 0), PV.sc (.int .u8 0), PV.sc (.int .u8 0), PV.sc (.int .u8 0), PV.sc (.int .u8 0), PV.sc (.int .u8 0), PV.sc (.int .u8 0), PV.sc (.int .u8 0), PV.sc (.int .u8 0), PV.sc (.int .u8 0), PV.sc (.int .u8 0), PV.sc (.int .u8 0), PV.sc (.int .u8 0)]).length = 64) && true then bif allInt IntKind.u8 (flat [PV.ro 5 false false (pu IntKind.u8 (xorB (ints (List.take 64 key ++ List.drop (0 + min key.length 64) [PV.sc (.int .u8 0), PV.sc (.int .u8 0), PV.sc (.int .u8 0), PV.sc (.int .u8 0), PV.sc (.int .u8 0), PV.sc (.int .u8 0), PV.sc (.int .u8 0), PV.sc (.int .u8 0), PV.sc (.int .u8 0), PV.sc (.int .u8 0), PV.sc (.int .u8 0), PV.sc (.int .u8 0), PV.sc (.int .u8 0), PV.sc (.int .u8 0), PV.sc (.int .u8 0), PV.sc (.int .u8 0), PV.sc (.int .u8 0), PV.sc (.int .u8 0), PV.sc (.int .u8 0), PV.sc (.int .u8 0), PV.sc (.int .u8 0), PV.sc (.int .u8 0), PV.sc (.int .u8 0), PV.sc (.int .u8 0), PV.sc (.int .u8 0), PV.sc (.int .u8 0), PV.sc (.int .u8 0), PV.sc (.int .u8 0), PV.sc (.int .u8 0), PV.sc (.int .u8 0), PV.sc (.int .u8 0), PV.sc (.int .u8 0), PV.sc (.int .u8 0), PV.sc (.int .u8 0), PV.sc (.int .u8 0), PV.sc (.int .u8 0), PV.sc (.int .u8 0), PV.sc (.int .u8 0), PV.sc (.int .u8 0), PV.sc (.int .u8 0), PV.sc (.int .u8 0), PV.sc (.int .u8 0), PV.sc (.int .u8 0), PV.sc (.int .u8 0), PV.sc (.int .u8 0), PV.sc (.int .u8 0), PV.sc (.int .u8 0), PV.sc (.int .u8 0), PV.sc (.int .u8 0), PV.sc (.int .u8 0), PV.sc (.int .u8 0), PV.sc (.int .u8 0), PV.sc (.int .u8 0), PV.sc (.int .u8 0), PV.sc (.int .u8 0), PV.sc (.int .u8 0), PV.sc (.int .u8 0), PV.sc (.int .u8 0), PV.sc (.int .u8 0), PV.sc (.int .u8 0), PV.sc (.int .u8 0), PV.sc (.int .u8 0), PV.sc (.int .u8 0), PV.sc (.int .u8 0)])) 92)), PV.ro 5 false false (List.take 32 (pu IntKind.u8 (sumP (ints (flat (PV.ro 5 false false (pu IntKind.u8 (xorB (ints (List.take 64 key ++ List.drop (0 + min key.length 64) [PV.sc (.int .u8 0), PV.sc (.int .u8 0), PV.sc (.int .u8 0), PV.sc (.int .u8 0), PV.sc (.int .u8 0), PV.sc (.int .u8 0), PV.sc (.int .u8 0), PV.sc (.int .u8 0), PV.sc (.int .u8 0), PV.sc (.int .u8 0), PV.sc (.int .u8 0), PV.sc (.int .u8 0), PV.sc (.int .u8 0), PV.sc (.int .u8 0), PV.sc (.int .u8 0), PV.sc (.int .u8 0), PV.sc (.int .u8 0), PV.sc (.int .u8 0), PV.sc (.int .u8 0), PV.sc (.int .u8 0), PV.sc (.int .u8 0), PV.sc (.int .u8 0), PV.sc (.int .u8 0), PV.sc (.int .u8 0), PV.sc (.int .u8 0), PV.sc (.int .u8 0), PV.sc (.int .u8 0), PV.sc (.int .u8 0), PV.sc (.int .u8 0), PV.sc (.int .u8 0), PV.sc (.int .u8 0), PV.sc (.int .u8 0), PV.sc (.int .u8 0), PV.sc (.int .u8 0), PV.sc (.int .u8 0), PV.sc (.int .u8 0), PV.sc (.int .u8 0), PV.sc (.int .u8 0), PV.sc (.int .u8 0), PV.sc (.int .u8 0), PV.sc (.int .u8 0), PV.sc (.int .u8 0), PV.sc (.int .u8 0), PV.sc (.int .u8 0), PV.sc (.int .u8 0), PV.sc (.int .u8 0), PV.sc (.int .u8 0), PV.sc (.int .u8 0), PV.sc (.int .u8 0), PV.sc (.int .u8 0), PV.sc (.int .u8 0), PV.sc (.int .u8 0), PV.sc (.int .u8 0), PV.sc (.int .u8 0), PV.sc (.int .u8 0), PV.sc (.int .u8 0), PV.sc (.int .u8 0), PV.sc (.int .u8 0), PV.sc (.int .u8 0), PV.sc (.int .u8 0), PV.sc (.int .u8 0), PV.sc (.int .u8 0), PV.sc (.int .u8 0), PV.sc (.int .u8 0)])) 54)) :: parts))))))]) && decide ((flat [PV.ro 5 false false (pu IntKind.u8 (xorB (ints (List.take 64 key ++ List.drop (0 + min key.length 64) [PV.sc (.int .u8 0), PV.sc (.int .u8 0), PV.sc (.int .u8 0), PV.sc (.int .u8 0), PV.sc (.int .u8 0), PV.sc (.int .u8 0), PV.sc (.int .u8 0), PV.sc (.int .u8 0), PV.sc (.int .u8 0), PV.sc (.int .u8 0), PV.sc (.int .u8 0), PV.sc (.int .u8 0), PV.sc (.int .u8 0), PV.sc (.int .u8 0), PV.sc (.int .u8 0), PV.sc (.int .u8 0), PV.sc (.int .u8 0), PV.sc (.int .u8 0), PV.sc (.int .u8 0), PV.sc (.int .u8 0), PV.sc (.int .u8 0), PV.sc (.int .u8 0), PV.sc (.int .u8 0), PV.sc (.int .u8 0), PV.sc (.int .u8 0), PV.sc (.int .u8 0), PV.sc (.int .u8 0), PV.sc (.int .u8 0), PV.sc (.int .u8 0), PV.sc (.int .u8 0), PV.sc (.int .u8 0), PV.sc (.int .u8 0), PV.sc (.int .u8 0), PV.sc (.int .u8 0), PV.sc (.int .u8 0), PV.sc (.int .u8 0), PV.sc (.int .u8 0), PV.sc (.int .u8 0), PV.sc (.int .u8 0), PV.sc (.int .u8 0), PV.sc (.int .u8 0), PV.sc (.int .u8 0), PV.sc (.int .u8 0), PV.sc (.int .u8 0), PV.sc (.int .u8 0), PV.sc (.int .u8 0), PV.sc (.int .u8 0), PV.sc (.int .u8 0), PV.sc (.int .u8 0), PV.sc (.int .u8 0), PV.sc (.int .u8 0), PV.sc (.int .u8 0), PV.sc (.int .u8 0), PV.sc (.int .u8 0), PV.sc (.int .u8 0), PV.sc (.int .u8 0), PV.sc (.int .u8 0), PV.sc (.int .u8 0), PV.sc (.int .u8 0), PV.sc (.int .u8 0), PV.sc (.int .u8 0), PV.sc (.int .u8 0), PV.sc (.int .u8 0), PV.sc (.int .u8 0)])) 92)), PV.ro 5 false false (List.take 32 (pu IntKind.u8 (sumP (ints (flat (PV.ro 5 false false (pu IntKind.u8 (xorB (ints (List.take 64 key ++ List.drop (0 + min key.length 64) [PV.sc (.int .u8 0), PV.sc (.int .u8 0), PV.sc (.int .u8 0), PV.sc (.int .u8 0), PV.sc (.int .u8 0), PV.sc (.int .u8 0), PV.sc (.int .u8 0), PV.sc (.int .u8 0), PV.sc (.int .u8 0), PV.sc (.int .u8 0), PV.sc (.int .u8 0), PV.sc (.int .u8 0), PV.sc (.int .u8 0), PV.sc (.int .u8 0), PV.sc (.int .u8 0), PV.sc (.int .u8 0), PV.sc (.int .u8 0), PV.sc (.int .u8 0), PV.sc (.int .u8 0), PV.sc (.int .u8 0), PV.sc (.int .u8 0), PV.sc (.int .u8 0), PV.sc (.int .u8 0), PV.sc (.int .u8 0), PV.sc (.int .u8 0), PV.sc (.int .u8 0), PV.sc (.int .u8 0), PV.sc (.int .u8 0), PV.sc (.int .u8 0), PV.sc (.int .u8 0), PV.sc (.int .u8 0), PV.sc (.int .u8 0), PV.sc (.int .u8 0), PV.sc (.int .u8 0), PV.sc (.int .u8 0), PV.sc (.int .u8 0), PV.sc (.int .u8 0), PV.sc (.int .u8 0), PV.sc (.int .u8 0), PV.sc (.int .u8 0), PV.sc (.int .u8 0), PV.sc (.int .u8 0), PV.sc (.int .u8 0), PV.sc (.int .u8 0), PV.sc (.int .u8 0), PV.sc (.int .u8 0), PV.sc (.int .u8 0), PV.sc (.int .u8 0), PV.sc (.int .u8 0), PV.sc (.int .u8 0), PV.sc (.int .u8 0), PV.sc (.int .u8 0), PV.sc (.int .u8 0), PV.sc (.int .u8 0), PV.sc (.int .u8 0), PV.sc (.int .u8 0), PV.sc (.int .u8 0), PV.sc (.int .u8 0), PV.sc (.int .u8 0), PV.sc (.int .u8 0), PV.sc (.int .u8 0), PV.sc (.int .u8 0), PV.sc (.int .u8 0), PV.sc (.int .u8 0)])) 54)) :: parts))))))]).length ≤ 140737488355000) then k (Res.mk (PV.ar 37 (pu IntKind.u8 (sumP (ints (flat [PV.ro 5 false false (pu IntKind.u8 (xorB (ints (List.take 64 key ++ List.drop (0 + min key.length 64) [PV.sc (.int .u8 0), PV.sc (.int .u8 0), PV.sc (.int .u8 0), PV.sc (.int .u8 0), PV.sc (.int .u8 0), PV.sc (.int .u8 0), PV.sc (.int .u8 0), PV.sc (.int .u8 0), PV.sc (.int .u8 0), PV.sc (.int .u8 0), PV.sc (.int .u8 0), PV.sc (.int .u8 0), PV.sc (.int .u8 0), PV.sc (.int .u8 0), PV.sc (.int .u8 0), PV.sc (.int .u8 0), PV.sc (.int .u8 0), PV.sc (.int .u8 0), PV.sc (.int .u8 0), PV.sc (.int .u8 0), PV.sc (.int .u8 0), PV.sc (.int .u8 0), PV.sc (.int .u8 0), PV.sc (.int .u8 0), PV.sc (.int .u8 0), PV.sc (.int .u8 0), PV.sc (.int .u8 0), PV.sc (.int .u8 0), PV.sc (.int .u8 0), PV.sc (.int .u8 0), PV.sc (.int .u8 0), PV.sc (.int .u8 0), PV.sc (.int .u8 0), PV.sc (.int .u8 0), PV.sc (.int .u8 0), PV.sc (.int .u8 0), PV.sc (.int .u8 0), PV.sc (.int .u8 0), PV.sc (.int .u8 0), PV.sc (.int .u8 0), PV.sc (.int .u8 0), PV.sc (.int .u8 0), PV.sc (.int .u8 0), PV.sc (.int .u8 0), PV.sc (.int .u8 0), PV.sc (.int .u8 0), PV.sc (.int .u8 0), PV.sc (.int .u8 0), PV.sc (.int .u8 0), PV.sc (.int .u8 0), PV.sc (.int .u8 0), PV.sc (.int .u8 0), PV.sc (.int .u8 0), PV.sc (.int .u8 0), PV.sc (.int .u8 0), PV.sc (.int .u8 0), PV.sc (.int .u8 0), PV.sc (.int .u8 0), PV.sc (.int .u8 0), PV.sc (.int .u8 0), PV.sc (.int .u8 0), PV.sc (.int .u8 0), PV.sc (.int .u8 0), PV.sc (.int .u8 0)])) 92)), PV.ro 5 false false (List.take 32 (pu IntKind.u8 (sumP (ints (flat (PV.ro 5 false false (pu IntKind.u8 (xorB (ints (List.take 64 key ++ List.drop (0 + min key.length 64) [PV.sc (.int .u8 0), PV.sc (.int .u8 0), PV.sc (.int .u8 0), PV.sc (.int .u8 0), PV.sc (.int .u8 0), PV.sc (.int .u8 0), PV.sc (.int .u8 0), PV.sc (.int .u8 0), PV.sc (.int .u8 0), PV.sc (.int .u8 0), PV.sc (.int .u8 0), PV.sc (.int .u8 0), PV.sc (.int .u8 0), PV.sc (.int .u8 0), PV.sc (.int .u8 0), PV.sc (.int .u8 0), PV.sc (.int .u8 0), PV.sc (.int .u8 0), PV.sc (.int .u8 0), PV.sc (.int .u8 0), PV.sc (.int .u8 0), PV.sc (.int .u8 0), PV.sc (.int .u8 0), PV.sc (.int .u8 0), PV.sc (.int .u8 0), PV.sc (.int .u8 0), PV.sc (.int .u8 0), PV.sc (.int .u8 0), PV.sc (.int .u8 0), PV.sc (.int .u8 0), PV.sc (.int .u8 0), PV.sc (.int .u8 0), PV.sc (.int .u8 0), PV.sc (.int .u8 0), PV.sc (.int .u8 0), PV.sc (.int .u8 0), PV.sc (.int .u8 0), PV.sc (.int .u8 0), PV.sc (.int .u8 0), PV.sc (.int .u8 0), PV.sc (.int .u8 0), PV.sc (.int .u8 0), PV.sc (.int .u8 0), PV.sc (.int .u8 0), PV.sc (.int .u8 0), PV.sc (.int .u8 0), PV.sc (.int .u8 0), PV.sc (.int .u8 0), PV.sc (.int .u8 0), PV.sc (.int .u8 0), PV.sc (.int .u8 0), PV.sc (.int .u8 0), PV.sc (.int .u8 0), PV.sc (.int .u8 0), PV.sc (.int .u8 0), PV.sc (.int .u8 0), PV.sc (.int .u8 0), PV.sc (.int .u8 0), PV.sc (.int .u8 0), PV.sc (.int .u8 0), PV.sc (.int .u8 0), PV.sc (.int .u8 0), PV.sc (.int .u8 0), PV.sc (.int .u8 0)])) 54)) :: parts))))))]))))) [] []) else none else none else none else none else none else none
theorem e80 (f : Nat) (key_z : Bool) (key_f : Bool) (key : List PV) (parts_z : Bool) (parts_f : Bool) (parts : List PV) (k : Res → Option Res) : evFn tau F80 Try.f80 (Try.f80.body.get!) an80 [.ro] 0 [.ro 5 key_z key_f key, .ro 29 parts_z parts_f parts] [] k = g80 f key_z key_f key parts_z parts_f parts k := by kernel_rfl
theorem it80 (f : Nat) : items (Try.f80.body.get!) an80 = [] := by kernel_rfl
theorem ia80 (f : Nat) : ∀ q ∈ items (Try.f80.body.get!) an80, q.Ok tau Try.prog 0 := by
  rw [it80 f]; intro q hq; cases hq
theorem fo80 : Try.prog.funcs[80]? = some Try.f80 := by kernel_rfl
theorem bo80 : Try.f80.body = some (Try.f80.body.get!) := by kernel_rfl
theorem en80 : Enters Try.prog 80 := enters_of fo80 (by kernel_rfl) bo80
noncomputable def run80 : List PV → List Ent → (Res → Option Res) → Option Res
  | [.ro 5 key_z key_f key, .ro 29 parts_z parts_f parts], [], k => g80 0 key_z key_f key parts_z parts_f parts k
  | _, _, _ => none
noncomputable def s80 : Sig := { own := [], run := run80 }
theorem ok80 : CallOk tau Try.prog 80 s80 := fn_ok tabOk F80_ok mixed fo80 bo80 an80 [.ro] 0 [] run80 (ia80 0) fun xs es k res hr => by
  unfold run80 at hr
  split at hr
  · exact ⟨rfl, 0, (e80 0 _ _ _ _ _ _  _).trans hr⟩
  · cases hr
end Go.Proofs.Ytcklhipdldpkhaa.Rx

-- FN hmac.Mac
/- A key's sign of all parts. Own work. -/
namespace Go.Proofs.Ytcklhipdldpkhaa.Rx
open Go
set_option linter.unusedVariables false
set_option linter.unusedSimpArgs false
set_option maxRecDepth 100000
set_option maxHeartbeats 1000000
theorem ints_append (a b : List PV) : ints (a ++ b) = ints a ++ ints b := by simp [ints]
@[simp] theorem ints_nil : ints [] = [] := rfl
/-- a key, with noughts behind it -/
def padK (s : List Int) : List Int := s ++ List.replicate (64 - s.length) 0
def keyB (key : List Int) : List Int := if key.length > 64 then padK (sumP key) else padK key
def macP0 (key text : List Int) : List Int := sumP (xorB (keyB key) 92 ++ sumP (xorB (keyB key) 54 ++ text))
noncomputable def macP : List Int → List Int → List Int := hid macP0
theorem macP_eq (key text : List Int) : macP key text = macP0 key text := by rw [macP, hid_eq]
theorem macP_length (key text : List Int) : (macP key text).length = 32 := by rw [macP_eq]; exact sumP_length _
theorem keyB_length (key : List Int) : (keyB key).length = 64 := by
  unfold keyB padK
  split
  · rw [List.length_append, sumP_length, List.length_replicate]
  · rw [List.length_append, List.length_replicate]; omega
def x54 (kb : List PV) : PV := .ro 5 false false (pu .u8 (xorB (ints kb) 54))
def x92 (kb : List PV) : PV := .ro 5 false false (pu .u8 (xorB (ints kb) 92))
def t32 (l : List PV) : PV := .ro 5 false false (List.take 32 (pu .u8 (sumP (ints (flat l)))))
def kbG (src : List PV) : List PV := [] ++ List.take 64 src ++ List.drop (0 + min src.length 64) (pu .u8 (List.replicate 64 0))
def macForm (pz : Bool) (parts kb : List PV) (k : Res → Option Res) : Option Res :=
  bif pz then
    bif allInt .u8 kb && decide (kb.length = 64) && true then
      bif allInt .u8 (flat [x54 kb]) && decide ((flat [x54 kb]).length ≤ 140737488355000) then
        bif allInt .u8 kb && decide (kb.length = 64) && true then
          bif allInt .u8 (flat [x92 kb, t32 [x54 kb]]) && decide ((flat [x92 kb, t32 [x54 kb]]).length ≤ 140737488355000) then
            k ⟨.ar 37 (pu .u8 (sumP (ints (flat [x92 kb, t32 [x54 kb]])))), [], []⟩
          else none
        else none
      else none
    else none
  else bif roomy (0 + parts.length) 24 && true then
    bif allInt .u8 kb && decide (kb.length = 64) && true then
      bif decide (0 + parts.length = ([] ++ parts).length) && decide (([] ++ parts).length ≤ 1000000000) then
        bif ([] ++ parts).all (PV.isRo 5) && decide ((x54 kb :: ([] ++ parts)).length ≤ 140737488355328) && (allInt .u8 (flat (x54 kb :: ([] ++ parts))) && decide ((flat (x54 kb :: ([] ++ parts))).length ≤ 140737488355000)) then
          bif allInt .u8 kb && decide (kb.length = 64) && true then
            bif allInt .u8 (flat [x92 kb, t32 (x54 kb :: ([] ++ parts))]) && decide ((flat [x92 kb, t32 (x54 kb :: ([] ++ parts))]).length ≤ 140737488355000) then
              k ⟨.ar 37 (pu .u8 (sumP (ints (flat [x92 kb, t32 (x54 kb :: ([] ++ parts))])))), [], []⟩
            else none
          else none
        else none
      else none
    else none
  else none
theorem g80_form (kz kf : Bool) (key : List PV) (pz pf : Bool) (parts : List PV) (k : Res → Option Res) : g80 0 kz kf key pz pf parts k =
    (bif decide (zi key.length > 64) then
      bif allInt .u8 (flat [.ro 5 kz kf key]) && decide ((flat [.ro 5 kz kf key]).length ≤ 140737488355000) then
        macForm pz parts (kbG (List.take 32 (pu .u8 (sumP (ints (flat [.ro 5 kz kf key])))))) k
      else none
    else macForm pz parts (kbG key) k) := by kernel_rfl
theorem kbG_pu (s : List Int) (h : s.length ≤ 64) : kbG (pu .u8 s) = pu .u8 (padK s) := by
  unfold kbG padK
  rw [pu_length, show 0 + min s.length 64 = s.length from by omega, pu_drop, List.drop_replicate, List.take_of_length_le (by simpa using h), List.nil_append, ← pu_append]
theorem macForm_eq (K : List Int) (hK : K.length = 64) (pz : Bool) (parts : List PV) (hz : pz = true → parts = []) (h1 : parts.all (PV.isRo 5) = true) (h2 : parts.length ≤ 1000000) (h3 : allInt .u8 (flat parts) = true) (h4 : (flat parts).length ≤ 1000000000) (k : Res → Option Res) :
    macForm pz parts (pu .u8 K) k = k ⟨.ar 37 (pu .u8 (sumP (xorB K 92 ++ sumP (xorB K 54 ++ ints (flat parts))))), [], []⟩ := by
  have hk : (allInt .u8 (pu .u8 K) && decide ((pu .u8 K).length = 64) && true) = true := by simp [hK]
  have e54 : x54 (pu .u8 K) = .ro 5 false false (pu .u8 (xorB K 54)) := by simp [x54]
  have e92 : x92 (pu .u8 K) = .ro 5 false false (pu .u8 (xorB K 92)) := by simp [x92]
  have hS : ∀ l : List Int, List.take 32 (pu .u8 (sumP l)) = pu .u8 (sumP l) := fun l => List.take_of_length_le (by simp [sumP_length])
  cases pz with
  | true =>
    have := hz rfl; subst this
    have et : t32 [x54 (pu .u8 K)] = .ro 5 false false (pu .u8 (sumP (xorB K 54))) := by simp [t32, e54, PV.els, hS]
    unfold macForm
    rw [cond_true, bif_t hk, bif_t (by simp [e54, PV.els, hK]), bif_t hk, et, e92, bif_t (by simp [PV.els, hK, allInt_append, sumP_length])]
    simp [PV.els, ints_append]
  | false =>
    have et : t32 (x54 (pu .u8 K) :: ([] ++ parts)) = .ro 5 false false (pu .u8 (sumP (xorB K 54 ++ ints (flat parts)))) := by
      rw [List.nil_append, t32, e54, flat_cons, hS]
      simp only [PV.els]
      rw [ints_append, ints_pu]
    unfold macForm
    have hp : (pu IntKind.u8 K).length = 64 := by simp [hK]
    rw [cond_false, bif_t (by simp [roomy]; omega), bif_t hk, bif_t (by simp; omega), bif_t, bif_t hk, et, e92, bif_t (by simp [PV.els, hK, allInt_append, sumP_length])]
    · simp [PV.els, ints_append]
    · rw [e54]
      simp only [List.nil_append, flat_cons, PV.els, h1, allInt_append, allInt_pu, h3, List.length_cons, List.length_append, pu_length, xorB_length, hK, Bool.true_and, Bool.and_true, Bool.and_eq_true, decide_eq_true_eq]
      omega
noncomputable def run80' : List PV → List Ent → (Res → Option Res) → Option Res
  | [.ro 5 kz kf key, .ro 29 pz pf parts], [], k =>
    bif (allInt .u8 key && decide (key.length ≤ 1000000000)) && ((parts.all (PV.isRo 5) && decide (parts.length ≤ 1000000)) && (allInt .u8 (flat parts) && decide ((flat parts).length ≤ 1000000000))) && (!pz || parts.isEmpty) then
      k ⟨.ar 37 (pu .u8 (macP (ints key) (ints (flat parts)))), [], []⟩ else none
  | _, _, _ => none
noncomputable def s80' : Sig := { own := [], run := run80' }
theorem g80_eq (kz kf : Bool) (key : List PV) (pz pf : Bool) (parts : List PV) (k : Res → Option Res) (a1 : allInt .u8 key = true) (a2 : key.length ≤ 1000000000) (h1 : parts.all (PV.isRo 5) = true) (h2 : parts.length ≤ 1000000) (h3 : allInt .u8 (flat parts) = true) (h4 : (flat parts).length ≤ 1000000000) (hz : pz = true → parts = []) :
    g80 0 kz kf key pz pf parts k = k ⟨.ar 37 (pu .u8 (macP (ints key) (ints (flat parts)))), [], []⟩ := by
  rw [g80_form, macP_eq, macP0]
  have hf : flat [.ro 5 kz kf key] = key := by simp [PV.els]
  have hi := pu_ints a1
  by_cases hc : key.length > 64
  · rw [bif_t (by simp [zi]; omega), hf, bif_t (by simp [a1]; omega), List.take_of_length_le (by simp [sumP_length]), kbG_pu _ (by rw [sumP_length]; omega),
      macForm_eq _ (by rw [← keyB_length (ints key), keyB, if_pos (by simpa using hc)]) pz parts hz h1 h2 h3 h4, keyB, if_pos (by simpa using hc)]
  · have hl : (ints key).length ≤ 64 := by simp; omega
    rw [bif_f (by simp [zi]; omega), hi, kbG_pu _ hl, ints_pu, macForm_eq _ (by rw [← keyB_length (ints key), keyB, if_neg (by omega)]) pz parts hz h1 h2 h3 h4, keyB, if_neg (by omega)]
theorem ok80' : CallOk tau Try.prog 80 s80' := ok80.of fun xs es k res hr => by
  change run80' xs es k = some res at hr
  unfold run80' at hr
  split at hr
  · rename_i kz kf key pz pf parts
    obtain ⟨hc, hr⟩ := of_bif hr
    simp only [Bool.and_eq_true, decide_eq_true_eq, Bool.or_eq_true, Bool.not_eq_true', List.isEmpty_iff] at hc
    obtain ⟨⟨⟨a1, a2⟩, ⟨h1, h2⟩, h3, h4⟩, hz⟩ := hc
    exact (g80_eq kz kf key pz pf parts k a1 a2 h1 h2 h3 h4 (fun hp => hz.resolve_left (by rw [hp]; decide))).trans hr
  · cases hr
end Go.Proofs.Ytcklhipdldpkhaa.Rx

/- What comitia/wire.Parse computes. Own work, printed by a program of the worker's own. -/
namespace Go.Proofs.Ytcklhipdldpkhaa.Rx
open Go
set_option linter.unusedVariables false
set_option maxRecDepth 100000
set_option maxHeartbeats 0
noncomputable def F37 : Fns := addF 81 s81' (addF 80 s80' (addF 79 s79' (addF 78 s78 (addF 77 s77' (addF 76 s76 (F0))))))
theorem F37_ok : FnsOk tau Try.prog F37 := ((((((F0_ok).add ok76 en76).add ok77' en77).add ok78 en78).add ok79' en79).add ok80' en80).add ok81' en81
def an37 : An := (.seq .leaf (.seq (.seq .leaf (.cond (.seq .leaf .leaf) .leaf)) (.seq .leaf (.seq .leaf (.seq .leaf (.seq (.seq .leaf (.cond .leaf .leaf)) (.seq (.seq .leaf (.cond .leaf .leaf)) (.seq (.seq .leaf (.cond (.seq .leaf .leaf) .leaf)) (.seq .leaf .leaf)))))))))
noncomputable def g37 (f : Nat) (k0_z : Bool) (k0_f : Bool) (k0 : List PV) (k1_z : Bool) (k1_f : Bool) (k1 : List PV) (k2_z : Bool) (k2_f : Bool) (k2 : List PV) (b_z : Bool) (b_f : Bool) (b : List PV) (k : Res → Option Res) : Option Res := bif decide (zi b.length > 8192) then k (Res.mk (.tup [.st 54 [.sc (.int .i64 0), .sc (.int .i64 0), .sc (.int .i64 0), .st 34 [.sc (.int .i64 0), .sc (.int .i64 0)], .st 45 [.sc (.int .i64 0), .sc (.int .i64 0)], .sc (.int .i64 0), .sc (.int .i64 0), .st 45 [.sc (.int .i64 0), .sc (.int .i64 0)], .sc (.int .i64 0), .sc (.int .i64 0), .ro 29 true true []], .sc (.int .i64 5)]) [] []) else bif slB b_z b then bif (!b_z || b_z) && byB b then bif (msgE (RS.mk b 0)).e == 0 then bif decide (zi (msgE (RS.mk b 0)).b.length > 0) then k (Res.mk (.tup [.st 54 [.sc (.int .i64 0), .sc (.int .i64 0), .sc (.int .i64 0), .st 34 [.sc (.int .i64 0), .sc (.int .i64 0)], .st 45 [.sc (.int .i64 0), .sc (.int .i64 0)], .sc (.int .i64 0), .sc (.int .i64 0), .st 45 [.sc (.int .i64 0), .sc (.int .i64 0)], .sc (.int .i64 0), .sc (.int .i64 0), .ro 29 true true []], .sc (.int .i64 9)]) [] []) else bif (msgE (RS.mk b 0)).e == 0 then bif chk (C13.mk (fld 0 (RS.mk b 0)) (fld 1 (RS.mk b 0)) (fld 2 (RS.mk b 0)) (fld 3 (RS.mk b 0)) (fld 4 (RS.mk b 0)) (fld 5 (RS.mk b 0)) (fld 6 (RS.mk b 0)) (fld 7 (RS.mk b 0)) (fld 8 (RS.mk b 0)) (fld 9 (RS.mk b 0)) (fld 10 (RS.mk b 0)) (fld 11 (RS.mk b 0)) (fld 12 (RS.mk b 0))) == 0 then bif decide (0 ≤ IntKind.i64.wrap (zi b.length - 32)) && true && decide ((IntKind.i64.wrap (zi b.length - 32)).toNat ≤ b.length) && true then bif allInt IntKind.u8 (keyF (K3.mk [.ro 5 k0_z k0_f k0, .ro 5 k1_z k1_f k1, .ro 5 k2_z k2_f k2] (fld 1 (RS.mk b 0)))) && decide ((keyF (K3.mk [.ro 5 k0_z k0_f k0, .ro 5 k1_z k1_f k1, .ro 5 k2_z k2_f k2] (fld 1 (RS.mk b 0)))).length ≤ 1000000000) && (allInt IntKind.u8 (flat [.ro 5 b_z (b_z || b_f && false) (List.take (IntKind.i64.wrap (zi b.length - 32)).toNat b)]) && decide ((flat [.ro 5 b_z (b_z || b_f && false) (List.take (IntKind.i64.wrap (zi b.length - 32)).toNat b)]).length ≤ 1000000000)) && true then bif decide ((pu IntKind.u8 (macP (ints (keyF (K3.mk [.ro 5 k0_z k0_f k0, .ro 5 k1_z k1_f k1, .ro 5 k2_z k2_f k2] (fld 1 (RS.mk b 0))))) (ints (flat [.ro 5 b_z (b_z || b_f && false) (List.take (IntKind.i64.wrap (zi b.length - 32)).toNat b)])))).length = 32) && decide ((pu IntKind.u8 (msgH (RS.mk b 0))).length = 32) && allInt IntKind.u8 (pu IntKind.u8 (macP (ints (keyF (K3.mk [.ro 5 k0_z k0_f k0, .ro 5 k1_z k1_f k1, .ro 5 k2_z k2_f k2] (fld 1 (RS.mk b 0))))) (ints (flat [.ro 5 b_z (b_z || b_f && false) (List.take (IntKind.i64.wrap (zi b.length - 32)).toNat b)])))) && allInt IntKind.u8 (pu IntKind.u8 (msgH (RS.mk b 0))) && true then bif !eqInts (pu IntKind.u8 (macP (ints (keyF (K3.mk [.ro 5 k0_z k0_f k0, .ro 5 k1_z k1_f k1, .ro 5 k2_z k2_f k2] (fld 1 (RS.mk b 0))))) (ints (flat [.ro 5 b_z (b_z || b_f && false) (List.take (IntKind.i64.wrap (zi b.length - 32)).toNat b)])))) (pu IntKind.u8 (msgH (RS.mk b 0))) then k (Res.mk (.tup [.st 54 [.sc (.int .i64 0), .sc (.int .i64 0), .sc (.int .i64 0), .st 34 [.sc (.int .i64 0), .sc (.int .i64 0)], .st 45 [.sc (.int .i64 0), .sc (.int .i64 0)], .sc (.int .i64 0), .sc (.int .i64 0), .st 45 [.sc (.int .i64 0), .sc (.int .i64 0)], .sc (.int .i64 0), .sc (.int .i64 0), .ro 29 true true []], .sc (.int .i64 14)]) [] []) else bif chk (C13.mk (fld 0 (RS.mk b 0)) (fld 1 (RS.mk b 0)) (fld 2 (RS.mk b 0)) (fld 3 (RS.mk b 0)) (fld 4 (RS.mk b 0)) (fld 5 (RS.mk b 0)) (fld 6 (RS.mk b 0)) (fld 7 (RS.mk b 0)) (fld 8 (RS.mk b 0)) (fld 9 (RS.mk b 0)) (fld 10 (RS.mk b 0)) (fld 11 (RS.mk b 0)) (fld 12 (RS.mk b 0))) != 0 then k (Res.mk (.tup [.st 54 [.sc (.int .i64 0), .sc (.int .i64 0), .sc (.int .i64 0), .st 34 [.sc (.int .i64 0), .sc (.int .i64 0)], .st 45 [.sc (.int .i64 0), .sc (.int .i64 0)], .sc (.int .i64 0), .sc (.int .i64 0), .st 45 [.sc (.int .i64 0), .sc (.int .i64 0)], .sc (.int .i64 0), .sc (.int .i64 0), .ro 29 true true []], .sc (.int .i64 (chk (C13.mk (fld 0 (RS.mk b 0)) (fld 1 (RS.mk b 0)) (fld 2 (RS.mk b 0)) (fld 3 (RS.mk b 0)) (fld 4 (RS.mk b 0)) (fld 5 (RS.mk b 0)) (fld 6 (RS.mk b 0)) (fld 7 (RS.mk b 0)) (fld 8 (RS.mk b 0)) (fld 9 (RS.mk b 0)) (fld 10 (RS.mk b 0)) (fld 11 (RS.mk b 0)) (fld 12 (RS.mk b 0)))))]) [] []) else k (Res.mk (.tup [.st 54 [.sc (.int .i64 (fld 0 (RS.mk b 0))), .sc (.int .i64 (fld 1 (RS.mk b 0))), .sc (.int .i64 (fld 2 (RS.mk b 0))), .st 34 [.sc (.int .i64 (fld 3 (RS.mk b 0))), .sc (.int .i64 (fld 4 (RS.mk b 0)))], .st 45 [.sc (.int .i64 (fld 5 (RS.mk b 0))), .sc (.int .i64 (fld 6 (RS.mk b 0)))], .sc (.int .i64 (fld 7 (RS.mk b 0))), .sc (.int .i64 (fld 8 (RS.mk b 0))), .st 45 [.sc (.int .i64 (fld 9 (RS.mk b 0))), .sc (.int .i64 (fld 10 (RS.mk b 0)))], .sc (.int .i64 (fld 11 (RS.mk b 0))), .sc (.int .i64 (fld 12 (RS.mk b 0))), .ro 29 (bodL (RS.mk b 0)).isEmpty (bodL (RS.mk b 0)).isEmpty (bodL (RS.mk b 0))], .sc (.int .i64 0)]) [] []) else none else none else none else bif chk (C13.mk (fld 0 (RS.mk b 0)) (fld 1 (RS.mk b 0)) (fld 2 (RS.mk b 0)) (fld 3 (RS.mk b 0)) (fld 4 (RS.mk b 0)) (fld 5 (RS.mk b 0)) (fld 6 (RS.mk b 0)) (fld 7 (RS.mk b 0)) (fld 8 (RS.mk b 0)) (fld 9 (RS.mk b 0)) (fld 10 (RS.mk b 0)) (fld 11 (RS.mk b 0)) (fld 12 (RS.mk b 0))) != 0 then k (Res.mk (.tup [.st 54 [.sc (.int .i64 0), .sc (.int .i64 0), .sc (.int .i64 0), .st 34 [.sc (.int .i64 0), .sc (.int .i64 0)], .st 45 [.sc (.int .i64 0), .sc (.int .i64 0)], .sc (.int .i64 0), .sc (.int .i64 0), .st 45 [.sc (.int .i64 0), .sc (.int .i64 0)], .sc (.int .i64 0), .sc (.int .i64 0), .ro 29 true true []], .sc (.int .i64 (chk (C13.mk (fld 0 (RS.mk b 0)) (fld 1 (RS.mk b 0)) (fld 2 (RS.mk b 0)) (fld 3 (RS.mk b 0)) (fld 4 (RS.mk b 0)) (fld 5 (RS.mk b 0)) (fld 6 (RS.mk b 0)) (fld 7 (RS.mk b 0)) (fld 8 (RS.mk b 0)) (fld 9 (RS.mk b 0)) (fld 10 (RS.mk b 0)) (fld 11 (RS.mk b 0)) (fld 12 (RS.mk b 0)))))]) [] []) else k (Res.mk (.tup [.st 54 [.sc (.int .i64 (fld 0 (RS.mk b 0))), .sc (.int .i64 (fld 1 (RS.mk b 0))), .sc (.int .i64 (fld 2 (RS.mk b 0))), .st 34 [.sc (.int .i64 (fld 3 (RS.mk b 0))), .sc (.int .i64 (fld 4 (RS.mk b 0)))], .st 45 [.sc (.int .i64 (fld 5 (RS.mk b 0))), .sc (.int .i64 (fld 6 (RS.mk b 0)))], .sc (.int .i64 (fld 7 (RS.mk b 0))), .sc (.int .i64 (fld 8 (RS.mk b 0))), .st 45 [.sc (.int .i64 (fld 9 (RS.mk b 0))), .sc (.int .i64 (fld 10 (RS.mk b 0)))], .sc (.int .i64 (fld 11 (RS.mk b 0))), .sc (.int .i64 (fld 12 (RS.mk b 0))), .ro 29 (bodL (RS.mk b 0)).isEmpty (bodL (RS.mk b 0)).isEmpty (bodL (RS.mk b 0))], .sc (.int .i64 0)]) [] []) else bif (msgE (RS.mk b 0)).e == 0 then bif decide (0 ≤ IntKind.i64.wrap (zi b.length - 32)) && true && decide ((IntKind.i64.wrap (zi b.length - 32)).toNat ≤ b.length) && true then bif allInt IntKind.u8 (keyF (K3.mk [.ro 5 k0_z k0_f k0, .ro 5 k1_z k1_f k1, .ro 5 k2_z k2_f k2] (fld 1 (RS.mk b 0)))) && decide ((keyF (K3.mk [.ro 5 k0_z k0_f k0, .ro 5 k1_z k1_f k1, .ro 5 k2_z k2_f k2] (fld 1 (RS.mk b 0)))).length ≤ 1000000000) && (allInt IntKind.u8 (flat [.ro 5 b_z (b_z || b_f && false) (List.take (IntKind.i64.wrap (zi b.length - 32)).toNat b)]) && decide ((flat [.ro 5 b_z (b_z || b_f && false) (List.take (IntKind.i64.wrap (zi b.length - 32)).toNat b)]).length ≤ 1000000000)) && true then bif decide ((pu IntKind.u8 (macP (ints (keyF (K3.mk [.ro 5 k0_z k0_f k0, .ro 5 k1_z k1_f k1, .ro 5 k2_z k2_f k2] (fld 1 (RS.mk b 0))))) (ints (flat [.ro 5 b_z (b_z || b_f && false) (List.take (IntKind.i64.wrap (zi b.length - 32)).toNat b)])))).length = 32) && decide ((pu IntKind.u8 (msgH (RS.mk b 0))).length = 32) && allInt IntKind.u8 (pu IntKind.u8 (macP (ints (keyF (K3.mk [.ro 5 k0_z k0_f k0, .ro 5 k1_z k1_f k1, .ro 5 k2_z k2_f k2] (fld 1 (RS.mk b 0))))) (ints (flat [.ro 5 b_z (b_z || b_f && false) (List.take (IntKind.i64.wrap (zi b.length - 32)).toNat b)])))) && allInt IntKind.u8 (pu IntKind.u8 (msgH (RS.mk b 0))) && true then bif !eqInts (pu IntKind.u8 (macP (ints (keyF (K3.mk [.ro 5 k0_z k0_f k0, .ro 5 k1_z k1_f k1, .ro 5 k2_z k2_f k2] (fld 1 (RS.mk b 0))))) (ints (flat [.ro 5 b_z (b_z || b_f && false) (List.take (IntKind.i64.wrap (zi b.length - 32)).toNat b)])))) (pu IntKind.u8 (msgH (RS.mk b 0))) then k (Res.mk (.tup [.st 54 [.sc (.int .i64 0), .sc (.int .i64 0), .sc (.int .i64 0), .st 34 [.sc (.int .i64 0), .sc (.int .i64 0)], .st 45 [.sc (.int .i64 0), .sc (.int .i64 0)], .sc (.int .i64 0), .sc (.int .i64 0), .st 45 [.sc (.int .i64 0), .sc (.int .i64 0)], .sc (.int .i64 0), .sc (.int .i64 0), .ro 29 true true []], .sc (.int .i64 14)]) [] []) else bif (msgE (RS.mk b 0)).e != 0 then k (Res.mk (.tup [.st 54 [.sc (.int .i64 0), .sc (.int .i64 0), .sc (.int .i64 0), .st 34 [.sc (.int .i64 0), .sc (.int .i64 0)], .st 45 [.sc (.int .i64 0), .sc (.int .i64 0)], .sc (.int .i64 0), .sc (.int .i64 0), .st 45 [.sc (.int .i64 0), .sc (.int .i64 0)], .sc (.int .i64 0), .sc (.int .i64 0), .ro 29 true true []], .sc (.int .i64 (msgE (RS.mk b 0)).e)]) [] []) else k (Res.mk (.tup [.st 54 [.sc (.int .i64 (fld 0 (RS.mk b 0))), .sc (.int .i64 (fld 1 (RS.mk b 0))), .sc (.int .i64 (fld 2 (RS.mk b 0))), .st 34 [.sc (.int .i64 (fld 3 (RS.mk b 0))), .sc (.int .i64 (fld 4 (RS.mk b 0)))], .st 45 [.sc (.int .i64 (fld 5 (RS.mk b 0))), .sc (.int .i64 (fld 6 (RS.mk b 0)))], .sc (.int .i64 (fld 7 (RS.mk b 0))), .sc (.int .i64 (fld 8 (RS.mk b 0))), .st 45 [.sc (.int .i64 (fld 9 (RS.mk b 0))), .sc (.int .i64 (fld 10 (RS.mk b 0)))], .sc (.int .i64 (fld 11 (RS.mk b 0))), .sc (.int .i64 (fld 12 (RS.mk b 0))), .ro 29 (bodL (RS.mk b 0)).isEmpty (bodL (RS.mk b 0)).isEmpty (bodL (RS.mk b 0))], .sc (.int .i64 0)]) [] []) else none else none else none else bif (msgE (RS.mk b 0)).e != 0 then k (Res.mk (.tup [.st 54 [.sc (.int .i64 0), .sc (.int .i64 0), .sc (.int .i64 0), .st 34 [.sc (.int .i64 0), .sc (.int .i64 0)], .st 45 [.sc (.int .i64 0), .sc (.int .i64 0)], .sc (.int .i64 0), .sc (.int .i64 0), .st 45 [.sc (.int .i64 0), .sc (.int .i64 0)], .sc (.int .i64 0), .sc (.int .i64 0), .ro 29 true true []], .sc (.int .i64 (msgE (RS.mk b 0)).e)]) [] []) else k (Res.mk (.tup [.st 54 [.sc (.int .i64 (fld 0 (RS.mk b 0))), .sc (.int .i64 (fld 1 (RS.mk b 0))), .sc (.int .i64 (fld 2 (RS.mk b 0))), .st 34 [.sc (.int .i64 (fld 3 (RS.mk b 0))), .sc (.int .i64 (fld 4 (RS.mk b 0)))], .st 45 [.sc (.int .i64 (fld 5 (RS.mk b 0))), .sc (.int .i64 (fld 6 (RS.mk b 0)))], .sc (.int .i64 (fld 7 (RS.mk b 0))), .sc (.int .i64 (fld 8 (RS.mk b 0))), .st 45 [.sc (.int .i64 (fld 9 (RS.mk b 0))), .sc (.int .i64 (fld 10 (RS.mk b 0)))], .sc (.int .i64 (fld 11 (RS.mk b 0))), .sc (.int .i64 (fld 12 (RS.mk b 0))), .ro 29 (bodL (RS.mk b 0)).isEmpty (bodL (RS.mk b 0)).isEmpty (bodL (RS.mk b 0))], .sc (.int .i64 0)]) [] []) else bif (msgE (RS.mk b 0)).e == 0 then bif chk (C13.mk (fld 0 (RS.mk b 0)) (fld 1 (RS.mk b 0)) (fld 2 (RS.mk b 0)) (fld 3 (RS.mk b 0)) (fld 4 (RS.mk b 0)) (fld 5 (RS.mk b 0)) (fld 6 (RS.mk b 0)) (fld 7 (RS.mk b 0)) (fld 8 (RS.mk b 0)) (fld 9 (RS.mk b 0)) (fld 10 (RS.mk b 0)) (fld 11 (RS.mk b 0)) (fld 12 (RS.mk b 0))) == 0 then bif decide (0 ≤ IntKind.i64.wrap (zi b.length - 32)) && true && decide ((IntKind.i64.wrap (zi b.length - 32)).toNat ≤ b.length) && true then bif allInt IntKind.u8 (keyF (K3.mk [.ro 5 k0_z k0_f k0, .ro 5 k1_z k1_f k1, .ro 5 k2_z k2_f k2] (fld 1 (RS.mk b 0)))) && decide ((keyF (K3.mk [.ro 5 k0_z k0_f k0, .ro 5 k1_z k1_f k1, .ro 5 k2_z k2_f k2] (fld 1 (RS.mk b 0)))).length ≤ 1000000000) && (allInt IntKind.u8 (flat [.ro 5 b_z (b_z || b_f && false) (List.take (IntKind.i64.wrap (zi b.length - 32)).toNat b)]) && decide ((flat [.ro 5 b_z (b_z || b_f && false) (List.take (IntKind.i64.wrap (zi b.length - 32)).toNat b)]).length ≤ 1000000000)) && true then bif decide ((pu IntKind.u8 (macP (ints (keyF (K3.mk [.ro 5 k0_z k0_f k0, .ro 5 k1_z k1_f k1, .ro 5 k2_z k2_f k2] (fld 1 (RS.mk b 0))))) (ints (flat [.ro 5 b_z (b_z || b_f && false) (List.take (IntKind.i64.wrap (zi b.length - 32)).toNat b)])))).length = 32) && decide ((pu IntKind.u8 (msgH (RS.mk b 0))).length = 32) && allInt IntKind.u8 (pu IntKind.u8 (macP (ints (keyF (K3.mk [.ro 5 k0_z k0_f k0, .ro 5 k1_z k1_f k1, .ro 5 k2_z k2_f k2] (fld 1 (RS.mk b 0))))) (ints (flat [.ro 5 b_z (b_z || b_f && false) (List.take (IntKind.i64.wrap (zi b.length - 32)).toNat b)])))) && allInt IntKind.u8 (pu IntKind.u8 (msgH (RS.mk b 0))) && true then bif !eqInts (pu IntKind.u8 (macP (ints (keyF (K3.mk [.ro 5 k0_z k0_f k0, .ro 5 k1_z k1_f k1, .ro 5 k2_z k2_f k2] (fld 1 (RS.mk b 0))))) (ints (flat [.ro 5 b_z (b_z || b_f && false) (List.take (IntKind.i64.wrap (zi b.length - 32)).toNat b)])))) (pu IntKind.u8 (msgH (RS.mk b 0))) then k (Res.mk (.tup [.st 54 [.sc (.int .i64 0), .sc (.int .i64 0), .sc (.int .i64 0), .st 34 [.sc (.int .i64 0), .sc (.int .i64 0)], .st 45 [.sc (.int .i64 0), .sc (.int .i64 0)], .sc (.int .i64 0), .sc (.int .i64 0), .st 45 [.sc (.int .i64 0), .sc (.int .i64 0)], .sc (.int .i64 0), .sc (.int .i64 0), .ro 29 true true []], .sc (.int .i64 14)]) [] []) else bif chk (C13.mk (fld 0 (RS.mk b 0)) (fld 1 (RS.mk b 0)) (fld 2 (RS.mk b 0)) (fld 3 (RS.mk b 0)) (fld 4 (RS.mk b 0)) (fld 5 (RS.mk b 0)) (fld 6 (RS.mk b 0)) (fld 7 (RS.mk b 0)) (fld 8 (RS.mk b 0)) (fld 9 (RS.mk b 0)) (fld 10 (RS.mk b 0)) (fld 11 (RS.mk b 0)) (fld 12 (RS.mk b 0))) != 0 then k (Res.mk (.tup [.st 54 [.sc (.int .i64 0), .sc (.int .i64 0), .sc (.int .i64 0), .st 34 [.sc (.int .i64 0), .sc (.int .i64 0)], .st 45 [.sc (.int .i64 0), .sc (.int .i64 0)], .sc (.int .i64 0), .sc (.int .i64 0), .st 45 [.sc (.int .i64 0), .sc (.int .i64 0)], .sc (.int .i64 0), .sc (.int .i64 0), .ro 29 true true []], .sc (.int .i64 (chk (C13.mk (fld 0 (RS.mk b 0)) (fld 1 (RS.mk b 0)) (fld 2 (RS.mk b 0)) (fld 3 (RS.mk b 0)) (fld 4 (RS.mk b 0)) (fld 5 (RS.mk b 0)) (fld 6 (RS.mk b 0)) (fld 7 (RS.mk b 0)) (fld 8 (RS.mk b 0)) (fld 9 (RS.mk b 0)) (fld 10 (RS.mk b 0)) (fld 11 (RS.mk b 0)) (fld 12 (RS.mk b 0)))))]) [] []) else k (Res.mk (.tup [.st 54 [.sc (.int .i64 (fld 0 (RS.mk b 0))), .sc (.int .i64 (fld 1 (RS.mk b 0))), .sc (.int .i64 (fld 2 (RS.mk b 0))), .st 34 [.sc (.int .i64 (fld 3 (RS.mk b 0))), .sc (.int .i64 (fld 4 (RS.mk b 0)))], .st 45 [.sc (.int .i64 (fld 5 (RS.mk b 0))), .sc (.int .i64 (fld 6 (RS.mk b 0)))], .sc (.int .i64 (fld 7 (RS.mk b 0))), .sc (.int .i64 (fld 8 (RS.mk b 0))), .st 45 [.sc (.int .i64 (fld 9 (RS.mk b 0))), .sc (.int .i64 (fld 10 (RS.mk b 0)))], .sc (.int .i64 (fld 11 (RS.mk b 0))), .sc (.int .i64 (fld 12 (RS.mk b 0))), .ro 29 (bodL (RS.mk b 0)).isEmpty (bodL (RS.mk b 0)).isEmpty (bodL (RS.mk b 0))], .sc (.int .i64 0)]) [] []) else none else none else none else bif chk (C13.mk (fld 0 (RS.mk b 0)) (fld 1 (RS.mk b 0)) (fld 2 (RS.mk b 0)) (fld 3 (RS.mk b 0)) (fld 4 (RS.mk b 0)) (fld 5 (RS.mk b 0)) (fld 6 (RS.mk b 0)) (fld 7 (RS.mk b 0)) (fld 8 (RS.mk b 0)) (fld 9 (RS.mk b 0)) (fld 10 (RS.mk b 0)) (fld 11 (RS.mk b 0)) (fld 12 (RS.mk b 0))) != 0 then k (Res.mk (.tup [.st 54 [.sc (.int .i64 0), .sc (.int .i64 0), .sc (.int .i64 0), .st 34 [.sc (.int .i64 0), .sc (.int .i64 0)], .st 45 [.sc (.int .i64 0), .sc (.int .i64 0)], .sc (.int .i64 0), .sc (.int .i64 0), .st 45 [.sc (.int .i64 0), .sc (.int .i64 0)], .sc (.int .i64 0), .sc (.int .i64 0), .ro 29 true true []], .sc (.int .i64 (chk (C13.mk (fld 0 (RS.mk b 0)) (fld 1 (RS.mk b 0)) (fld 2 (RS.mk b 0)) (fld 3 (RS.mk b 0)) (fld 4 (RS.mk b 0)) (fld 5 (RS.mk b 0)) (fld 6 (RS.mk b 0)) (fld 7 (RS.mk b 0)) (fld 8 (RS.mk b 0)) (fld 9 (RS.mk b 0)) (fld 10 (RS.mk b 0)) (fld 11 (RS.mk b 0)) (fld 12 (RS.mk b 0)))))]) [] []) else k (Res.mk (.tup [.st 54 [.sc (.int .i64 (fld 0 (RS.mk b 0))), .sc (.int .i64 (fld 1 (RS.mk b 0))), .sc (.int .i64 (fld 2 (RS.mk b 0))), .st 34 [.sc (.int .i64 (fld 3 (RS.mk b 0))), .sc (.int .i64 (fld 4 (RS.mk b 0)))], .st 45 [.sc (.int .i64 (fld 5 (RS.mk b 0))), .sc (.int .i64 (fld 6 (RS.mk b 0)))], .sc (.int .i64 (fld 7 (RS.mk b 0))), .sc (.int .i64 (fld 8 (RS.mk b 0))), .st 45 [.sc (.int .i64 (fld 9 (RS.mk b 0))), .sc (.int .i64 (fld 10 (RS.mk b 0)))], .sc (.int .i64 (fld 11 (RS.mk b 0))), .sc (.int .i64 (fld 12 (RS.mk b 0))), .ro 29 (bodL (RS.mk b 0)).isEmpty (bodL (RS.mk b 0)).isEmpty (bodL (RS.mk b 0))], .sc (.int .i64 0)]) [] []) else bif (msgE (RS.mk b 0)).e == 0 then bif decide (0 ≤ IntKind.i64.wrap (zi b.length - 32)) && true && decide ((IntKind.i64.wrap (zi b.length - 32)).toNat ≤ b.length) && true then bif allInt IntKind.u8 (keyF (K3.mk [.ro 5 k0_z k0_f k0, .ro 5 k1_z k1_f k1, .ro 5 k2_z k2_f k2] (fld 1 (RS.mk b 0)))) && decide ((keyF (K3.mk [.ro 5 k0_z k0_f k0, .ro 5 k1_z k1_f k1, .ro 5 k2_z k2_f k2] (fld 1 (RS.mk b 0)))).length ≤ 1000000000) && (allInt IntKind.u8 (flat [.ro 5 b_z (b_z || b_f && false) (List.take (IntKind.i64.wrap (zi b.length - 32)).toNat b)]) && decide ((flat [.ro 5 b_z (b_z || b_f && false) (List.take (IntKind.i64.wrap (zi b.length - 32)).toNat b)]).length ≤ 1000000000)) && true then bif decide ((pu IntKind.u8 (macP (ints (keyF (K3.mk [.ro 5 k0_z k0_f k0, .ro 5 k1_z k1_f k1, .ro 5 k2_z k2_f k2] (fld 1 (RS.mk b 0))))) (ints (flat [.ro 5 b_z (b_z || b_f && false) (List.take (IntKind.i64.wrap (zi b.length - 32)).toNat b)])))).length = 32) && decide ((pu IntKind.u8 (msgH (RS.mk b 0))).length = 32) && allInt IntKind.u8 (pu IntKind.u8 (macP (ints (keyF (K3.mk [.ro 5 k0_z k0_f k0, .ro 5 k1_z k1_f k1, .ro 5 k2_z k2_f k2] (fld 1 (RS.mk b 0))))) (ints (flat [.ro 5 b_z (b_z || b_f && false) (List.take (IntKind.i64.wrap (zi b.length - 32)).toNat b)])))) && allInt IntKind.u8 (pu IntKind.u8 (msgH (RS.mk b 0))) && true then bif !eqInts (pu IntKind.u8 (macP (ints (keyF (K3.mk [.ro 5 k0_z k0_f k0, .ro 5 k1_z k1_f k1, .ro 5 k2_z k2_f k2] (fld 1 (RS.mk b 0))))) (ints (flat [.ro 5 b_z (b_z || b_f && false) (List.take (IntKind.i64.wrap (zi b.length - 32)).toNat b)])))) (pu IntKind.u8 (msgH (RS.mk b 0))) then k (Res.mk (.tup [.st 54 [.sc (.int .i64 0), .sc (.int .i64 0), .sc (.int .i64 0), .st 34 [.sc (.int .i64 0), .sc (.int .i64 0)], .st 45 [.sc (.int .i64 0), .sc (.int .i64 0)], .sc (.int .i64 0), .sc (.int .i64 0), .st 45 [.sc (.int .i64 0), .sc (.int .i64 0)], .sc (.int .i64 0), .sc (.int .i64 0), .ro 29 true true []], .sc (.int .i64 14)]) [] []) else bif (msgE (RS.mk b 0)).e != 0 then k (Res.mk (.tup [.st 54 [.sc (.int .i64 0), .sc (.int .i64 0), .sc (.int .i64 0), .st 34 [.sc (.int .i64 0), .sc (.int .i64 0)], .st 45 [.sc (.int .i64 0), .sc (.int .i64 0)], .sc (.int .i64 0), .sc (.int .i64 0), .st 45 [.sc (.int .i64 0), .sc (.int .i64 0)], .sc (.int .i64 0), .sc (.int .i64 0), .ro 29 true true []], .sc (.int .i64 (msgE (RS.mk b 0)).e)]) [] []) else k (Res.mk (.tup [.st 54 [.sc (.int .i64 (fld 0 (RS.mk b 0))), .sc (.int .i64 (fld 1 (RS.mk b 0))), .sc (.int .i64 (fld 2 (RS.mk b 0))), .st 34 [.sc (.int .i64 (fld 3 (RS.mk b 0))), .sc (.int .i64 (fld 4 (RS.mk b 0)))], .st 45 [.sc (.int .i64 (fld 5 (RS.mk b 0))), .sc (.int .i64 (fld 6 (RS.mk b 0)))], .sc (.int .i64 (fld 7 (RS.mk b 0))), .sc (.int .i64 (fld 8 (RS.mk b 0))), .st 45 [.sc (.int .i64 (fld 9 (RS.mk b 0))), .sc (.int .i64 (fld 10 (RS.mk b 0)))], .sc (.int .i64 (fld 11 (RS.mk b 0))), .sc (.int .i64 (fld 12 (RS.mk b 0))), .ro 29 (bodL (RS.mk b 0)).isEmpty (bodL (RS.mk b 0)).isEmpty (bodL (RS.mk b 0))], .sc (.int .i64 0)]) [] []) else none else none else none else bif (msgE (RS.mk b 0)).e != 0 then k (Res.mk (.tup [.st 54 [.sc (.int .i64 0), .sc (.int .i64 0), .sc (.int .i64 0), .st 34 [.sc (.int .i64 0), .sc (.int .i64 0)], .st 45 [.sc (.int .i64 0), .sc (.int .i64 0)], .sc (.int .i64 0), .sc (.int .i64 0), .st 45 [.sc (.int .i64 0), .sc (.int .i64 0)], .sc (.int .i64 0), .sc (.int .i64 0), .ro 29 true true []], .sc (.int .i64 (msgE (RS.mk b 0)).e)]) [] []) else k (Res.mk (.tup [.st 54 [.sc (.int .i64 (fld 0 (RS.mk b 0))), .sc (.int .i64 (fld 1 (RS.mk b 0))), .sc (.int .i64 (fld 2 (RS.mk b 0))), .st 34 [.sc (.int .i64 (fld 3 (RS.mk b 0))), .sc (.int .i64 (fld 4 (RS.mk b 0)))], .st 45 [.sc (.int .i64 (fld 5 (RS.mk b 0))), .sc (.int .i64 (fld 6 (RS.mk b 0)))], .sc (.int .i64 (fld 7 (RS.mk b 0))), .sc (.int .i64 (fld 8 (RS.mk b 0))), .st 45 [.sc (.int .i64 (fld 9 (RS.mk b 0))), .sc (.int .i64 (fld 10 (RS.mk b 0)))], .sc (.int .i64 (fld 11 (RS.mk b 0))), .sc (.int .i64 (fld 12 (RS.mk b 0))), .ro 29 (bodL (RS.mk b 0)).isEmpty (bodL (RS.mk b 0)).isEmpty (bodL (RS.mk b 0))], .sc (.int .i64 0)]) [] []) else none else none
theorem e37 (f : Nat) (k0_z : Bool) (k0_f : Bool) (k0 : List PV) (k1_z : Bool) (k1_f : Bool) (k1 : List PV) (k2_z : Bool) (k2_f : Bool) (k2 : List PV) (b_z : Bool) (b_f : Bool) (b : List PV) (k : Res → Option Res) : evFn tau F37 Try.f37 (Try.f37.body.get!) an37 [.ro, .ro] 0 [.st 31 [.ro 5 k0_z k0_f k0, .ro 5 k1_z k1_f k1, .ro 5 k2_z k2_f k2], .ro 5 b_z b_f b] [] k = g37 f k0_z k0_f k0 k1_z k1_f k1 k2_z k2_f k2 b_z b_f b k := by kernel_rfl
theorem it37 (f : Nat) : items (Try.f37.body.get!) an37 = [] := by kernel_rfl
theorem ia37 (f : Nat) : ∀ q ∈ items (Try.f37.body.get!) an37, q.Ok tau Try.prog 0 := by
  rw [it37 f]; intro q hq; cases hq
theorem fo37 : Try.prog.funcs[37]? = some Try.f37 := by kernel_rfl
theorem bo37 : Try.f37.body = some (Try.f37.body.get!) := by kernel_rfl
theorem en37 : Enters Try.prog 37 := enters_of fo37 (by kernel_rfl) bo37
noncomputable def run37 : List PV → List Ent → (Res → Option Res) → Option Res
  | [.st 31 [.ro 5 k0_z k0_f k0, .ro 5 k1_z k1_f k1, .ro 5 k2_z k2_f k2], .ro 5 b_z b_f b], [], k => g37 0 k0_z k0_f k0 k1_z k1_f k1 k2_z k2_f k2 b_z b_f b k
  | _, _, _ => none
noncomputable def s37 : Sig := { own := [], run := run37 }
theorem ok37 : CallOk tau Try.prog 37 s37 := fn_ok tabOk F37_ok mixed fo37 bo37 an37 [.ro, .ro] 0 [] run37 (ia37 0) fun xs es k res hr => by
  unfold run37 at hr
  split at hr
  · exact ⟨rfl, 0, (e37 0 _ _ _ _ _ _ _ _ _ _ _ _  _).trans hr⟩
  · cases hr
end Go.Proofs.Ytcklhipdldpkhaa.Rx

-- FN wire.Parse
/- A message is parsed. Own work. -/
namespace Go.Proofs.Ytcklhipdldpkhaa.Rx
open Go
set_option linter.unusedVariables false
set_option linter.unusedSimpArgs false
set_option maxRecDepth 100000
set_option maxHeartbeats 1000000
structure PA where
  (l : List PV) (b : List PV)
noncomputable def parC (s : RS) : Int := chk ⟨fld 0 s, fld 1 s, fld 2 s, fld 3 s, fld 4 s, fld 5 s, fld 6 s, fld 7 s, fld 8 s, fld 9 s, fld 10 s, fld 11 s, fld 12 s⟩
noncomputable def parM (p : PA) : List Int := macP (ints (keyF ⟨p.l, fld 1 ⟨p.b, 0⟩⟩)) (ints (p.b.take (p.b.length - 32)))
noncomputable def parE0 (p : PA) : Int :=
  bif decide (p.b.length > 8192) then 5
  else bif (msgE ⟨p.b, 0⟩).e == 0 then
    (bif decide ((msgE ⟨p.b, 0⟩).b.length > 0) then 9
    else bif parC ⟨p.b, 0⟩ == 0 then (bif parM p == msgH ⟨p.b, 0⟩ then 0 else 14)
    else parC ⟨p.b, 0⟩)
  else (msgE ⟨p.b, 0⟩).e
noncomputable def parE : PA → Int := hid parE0
noncomputable def pfld : Nat → PA → Int := hid fun i p => bif parE0 p == 0 then fld i ⟨p.b, 0⟩ else 0
noncomputable def pbod : PA → List PV := hid fun p => bif parE0 p == 0 then bodL ⟨p.b, 0⟩ else []
theorem parE_eq (p : PA) : parE p = parE0 p := by rw [parE, hid_eq]
theorem pfld_eq (i : Nat) (p : PA) : pfld i p = bif parE0 p == 0 then fld i ⟨p.b, 0⟩ else 0 := by rw [pfld, hid_eq]
theorem pbod_eq (p : PA) : pbod p = bif parE0 p == 0 then bodL ⟨p.b, 0⟩ else [] := by rw [pbod, hid_eq]
noncomputable def parP (p : PA) : PV := .tup [.st 54 [.sc (.int .i64 (pfld 0 p)), .sc (.int .i64 (pfld 1 p)), .sc (.int .i64 (pfld 2 p)), .st 34 [.sc (.int .i64 (pfld 3 p)), .sc (.int .i64 (pfld 4 p))], .st 45 [.sc (.int .i64 (pfld 5 p)), .sc (.int .i64 (pfld 6 p))], .sc (.int .i64 (pfld 7 p)), .sc (.int .i64 (pfld 8 p)), .st 45 [.sc (.int .i64 (pfld 9 p)), .sc (.int .i64 (pfld 10 p))], .sc (.int .i64 (pfld 11 p)), .sc (.int .i64 (pfld 12 p)), .ro 29 (pbod p).isEmpty (pbod p).isEmpty (pbod p)], .sc (.int .i64 (parE p))]
def zeroM (e : Int) : PV := .tup [.st 54 [.sc (.int .i64 0), .sc (.int .i64 0), .sc (.int .i64 0), .st 34 [.sc (.int .i64 0), .sc (.int .i64 0)], .st 45 [.sc (.int .i64 0), .sc (.int .i64 0)], .sc (.int .i64 0), .sc (.int .i64 0), .st 45 [.sc (.int .i64 0), .sc (.int .i64 0)], .sc (.int .i64 0), .sc (.int .i64 0), .ro 29 true true []], .sc (.int .i64 e)]
theorem parP_bad {p : PA} {e : Int} (h : parE0 p = e) (h0 : (e == 0) = false) : parP p = zeroM e := by
  unfold parP zeroM
  simp only [pfld_eq, pbod_eq, parE_eq, h, h0, cond_false, List.isEmpty_nil]
theorem parP_ok {p : PA} (h : parE0 p = 0) : parP p = .tup [msgP ⟨p.b, 0⟩, .sc (.int .i64 0)] := by
  unfold parP msgP
  simp only [pfld_eq, pbod_eq, parE_eq, h, beq_self_eq_true, cond_true]
theorem stepS_len (n : Nat) (s : RS) : (stepS n s).b.length ≤ s.b.length := by rw [stepS_eq]; exact step_length n s
theorem txtS_len (s : RS) : (txtS s).b.length ≤ s.b.length := by rw [txtS_eq]; exact Nat.le_trans (step_length _ _) (step_length _ _)
theorem fS_len (s : RS) : ∀ n, (fS n s).b.length ≤ s.b.length
  | 0 => Nat.le_refl _
  | 1 => stepS_len 1 s
  | n + 2 => Nat.le_trans (stepS_len 8 _) (fS_len s (n + 1))
theorem txR_len : ∀ (n : Nat) (s : RS), (txR n s).b.length ≤ s.b.length
  | 0, _ => Nat.le_refl _
  | n + 1, s => Nat.le_trans (txR_len n (txtS s)) (txtS_len s)
theorem runB_err : ∀ (n : Nat) {s : RS}, s.e ≠ 0 → (runB n s).e ≠ 0
  | 0, _, h => h
  | n + 1, s, h => by
      show (runB n (stepS0 1 s)).e ≠ 0
      rw [step_err h]; exact runB_err n h
theorem runB_room : ∀ (n : Nat) (s : RS), (runB n s).e = 0 → n ≤ s.b.length
  | 0, _, _ => Nat.zero_le _
  | n + 1, s, h => by
      have h2 : (runB n (stepS0 1 s)).e = 0 := h
      have ih := runB_room n (stepS0 1 s) h2
      cases hk : okS0 1 s with
      | true =>
        have hl : (stepS0 1 s).b = s.b.drop 1 := by unfold stepS0; rw [hk]; rfl
        rw [hl, List.length_drop] at ih
        simp only [okS0, Bool.and_eq_true, Nat.ble_eq] at hk
        omega
      | false =>
        exfalso
        refine runB_err n (s := stepS0 1 s) ?_ h2
        unfold stepS0
        rw [hk, cond_false]
        show (bif s.e == 0 then (8 : Int) else s.e) ≠ 0
        cases he : (s.e == 0) with
        | true => exact (by decide : (8 : Int) ≠ 0)
        | false => exact (by simpa using he : s.e ≠ 0)
theorem msg_room {b : List PV} {e : Int} (h : (msgE ⟨b, e⟩).e = 0) : 32 ≤ b.length := by
  rw [msgE_eq, hashS_eq] at h
  have h1 := runB_room 32 _ h
  have h2 := txR_len (msgN ⟨b, e⟩) (msgS ⟨b, e⟩)
  have h3 : (msgS ⟨b, e⟩).b.length ≤ (stepS 1 (fS 13 ⟨b, e⟩)).b.length := by
    unfold msgS
    cases decide (cntS ⟨b, e⟩ > 4) <;> exact Nat.le_refl _
  have h4 := stepS_len 1 (fS 13 ⟨b, e⟩)
  have h5 := fS_len ⟨b, e⟩ 13
  have h6 : (RS.mk b e).b.length = b.length := rfl
  omega
def kOk (l : List PV) : Bool := allInt .u8 l && decide (l.length ≤ 1000000000)
theorem keyF_ok {z0 f0 z1 f1 z2 f2 : Bool} {k0 k1 k2 : List PV} (h0 : kOk k0 = true) (h1 : kOk k1 = true) (h2 : kOk k2 = true) (d : Int) : kOk (keyF ⟨[.ro 5 z0 f0 k0, .ro 5 z1 f1 k1, .ro 5 z2 f2 k2], d⟩) = true := by
  rw [keyF_eq]
  show kOk (keyF0 _ d).els = true
  unfold keyF0
  cases h : innB d 2 with
  | false => rfl
  | true =>
    simp only [innB, Bool.and_eq_true, decide_eq_true_eq] at h
    have : d = 0 ∨ d = 1 ∨ d = 2 := by omega
    rcases this with rfl | rfl | rfl
    · exact h0
    · exact h1
    · exact h2
noncomputable def run37' : List PV → List Ent → (Res → Option Res) → Option Res
  | [.st 31 [.ro 5 z0 f0 k0, .ro 5 z1 f1 k1, .ro 5 z2 f2 k2], .ro 5 z f b], [], k =>
    bif (slB z b && byB b) && (kOk k0 && (kOk k1 && kOk k2)) then k ⟨parP ⟨[.ro 5 z0 f0 k0, .ro 5 z1 f1 k1, .ro 5 z2 f2 k2], b⟩, [], []⟩ else none
  | _, _, _ => none
noncomputable def s37' : Sig := { own := [], run := run37' }
theorem g37_eq (z0 f0 z1 f1 z2 f2 z f : Bool) (k0 k1 k2 b : List PV) (hz : slB z b = true) (hb : byB b = true) (h0 : kOk k0 = true) (h1 : kOk k1 = true) (h2 : kOk k2 = true) (k : Res → Option Res) :
    g37 0 z0 f0 k0 z1 f1 k1 z2 f2 k2 z f b k = k ⟨parP ⟨[.ro 5 z0 f0 k0, .ro 5 z1 f1 k1, .ro 5 z2 f2 k2], b⟩, [], []⟩ := by
  generalize hp : PA.mk [.ro 5 z0 f0 k0, .ro 5 z1 f1 k1, .ro 5 z2 f2 k2] b = p
  have hpb : p.b = b := by rw [← hp]
  have hpl : p.l = [.ro 5 z0 f0 k0, .ro 5 z1 f1 k1, .ro 5 z2 f2 k2] := by rw [← hp]
  have hE : parE0 p = parE0 p := rfl
  conv at hE => rhs; unfold parE0
  rw [hpb] at hE
  unfold g37
  by_cases c1 : b.length > 8192
  · refine (bif_t (by simp [zi]; omega)).trans ?_
    rw [show decide (b.length > 8192) = true by simpa using c1, cond_true] at hE
    rw [parP_bad hE (by decide)]
    rfl
  refine (bif_f (by simp [zi]; omega)).trans ((bif_t hz).trans ((bif_t (by rw [hb]; cases z <;> rfl)).trans ?_))
  rw [show decide (b.length > 8192) = false by simpa using c1, cond_false] at hE
  cases ce : ((msgE ⟨b, 0⟩).e == 0) with
  | false =>
    rw [ce, cond_false] at hE
    simp only [cond_false]
    refine (bif_t (by simp only [bne, ce]; rfl)).trans ?_
    rw [parP_bad hE ce]
    rfl
  | true =>
    rw [ce, cond_true] at hE
    simp only [cond_true]
    by_cases c2 : (msgE ⟨b, 0⟩).b.length > 0
    · refine (bif_t (by simp [zi]; omega)).trans ?_
      rw [show decide ((msgE ⟨b, 0⟩).b.length > 0) = true by simpa using c2, cond_true] at hE
      rw [parP_bad hE (by decide)]
      rfl
    refine (bif_f (decide_eq_false_iff_not.2 (by simp only [zi]; omega))).trans ?_
    rw [show decide ((msgE ⟨b, 0⟩).b.length > 0) = false by simpa using c2, cond_false] at hE
    have hC : ∀ x : Int, parC ⟨b, 0⟩ = x → chk ⟨fld 0 ⟨b, 0⟩, fld 1 ⟨b, 0⟩, fld 2 ⟨b, 0⟩, fld 3 ⟨b, 0⟩, fld 4 ⟨b, 0⟩, fld 5 ⟨b, 0⟩, fld 6 ⟨b, 0⟩, fld 7 ⟨b, 0⟩, fld 8 ⟨b, 0⟩, fld 9 ⟨b, 0⟩, fld 10 ⟨b, 0⟩, fld 11 ⟨b, 0⟩, fld 12 ⟨b, 0⟩⟩ = x := fun x h => h
    cases cc : (parC ⟨b, 0⟩ == 0) with
    | false =>
      rw [cc, cond_false] at hE
      generalize hx : parC ⟨b, 0⟩ = x at *
      rw [hC x rfl, cc, cond_false]
      refine (bif_t (by simp only [bne, cc]; rfl)).trans ?_
      rw [parP_bad hE cc]
      rfl
    | true =>
      rw [cc, cond_true] at hE
      have cc' : parC ⟨b, 0⟩ = 0 := by simpa using cc
      rw [hC 0 cc']
      refine (bif_t rfl).trans ?_
      have hr := msg_room (b := b) (e := 0) (by simpa using ce)
      have hw : IntKind.i64.wrap (zi b.length - 32) = ((b.length - 32 : Nat) : Int) := by simp only [zi]; rw [wrap_i64 (by omega) (by omega)]; omega
      have hk := keyF_ok (z0 := z0) (f0 := f0) (z1 := z1) (f1 := f1) (z2 := z2) (f2 := f2) h0 h1 h2 (fld 1 ⟨b, 0⟩)
      unfold kOk at hk
      have hab := (byB_iff.1 hb).1
      have hat : allInt .u8 (b.take (b.length - 32)) = true := (byB_iff.1 (byB_take hb (b.length - 32))).1
      have hft : ∀ (x y : Bool) (l : List PV), flat [.ro 5 x y l] = l := fun x y l => by simp [PV.els]
      simp only [hw, Int.toNat_natCast, hft]
      refine (bif_t (by simp)).trans ((bif_t (by rw [hk, hat]; simp; omega)).trans ((bif_t (by simp [macP_length])).trans ?_))
      have hM : parM p = macP (ints (keyF ⟨[.ro 5 z0 f0 k0, .ro 5 z1 f1 k1, .ro 5 z2 f2 k2], fld 1 ⟨b, 0⟩⟩)) (ints (b.take (b.length - 32))) := by unfold parM; rw [hpb, hpl]
      rw [eqInts_pu, ← hM]
      cases cm : (parM p == msgH ⟨b, 0⟩) with
      | false =>
        rw [cm, cond_false] at hE
        refine (bif_t rfl).trans ?_
        rw [parP_bad hE (by decide)]
        rfl
      | true =>
        rw [cm, cond_true] at hE
        refine (bif_f rfl).trans ((bif_f (by decide)).trans ?_)
        rw [parP_ok hE, hpb]
        rfl
theorem ok37' : CallOk tau Try.prog 37 s37' := ok37.of fun xs es k res hr => by
  change run37' xs es k = some res at hr
  unfold run37' at hr
  split at hr
  · rename_i z0 f0 k0 z1 f1 k1 z2 f2 k2 z f b
    obtain ⟨hc, hr⟩ := of_bif hr
    simp only [Bool.and_eq_true] at hc
    exact (g37_eq z0 f0 z1 f1 z2 f2 z f k0 k1 k2 b hc.1.1 hc.1.2 hc.2.1 hc.2.2.1 hc.2.2.2 k).trans hr
  · cases hr
end Go.Proofs.Ytcklhipdldpkhaa.Rx

/- What comitia/code.Byte computes. Own work, printed by a program of the worker's own. -/
namespace Go.Proofs.Ytcklhipdldpkhaa.Rx
open Go
set_option linter.unusedVariables false
set_option maxRecDepth 100000
set_option maxHeartbeats 0
theorem fo96 : Try.prog.funcs[96]? = some Try.f96 := by kernel_rfl
theorem bo96 : Try.f96.body = some (Try.f96.body.get!) := by kernel_rfl
theorem en96 : Enters Try.prog 96 := enters_of fo96 (by kernel_rfl) bo96
end Go.Proofs.Ytcklhipdldpkhaa.Rx

/- What comitia/code.Text computes. Own work, printed by a program of the worker's own. -/
namespace Go.Proofs.Ytcklhipdldpkhaa.Rx
open Go
set_option linter.unusedVariables false
set_option maxRecDepth 100000
set_option maxHeartbeats 0
theorem fo98 : Try.prog.funcs[98]? = some Try.f98 := by kernel_rfl
theorem bo98 : Try.f98.body = some (Try.f98.body.get!) := by kernel_rfl
theorem en98 : Enters Try.prog 98 := enters_of fo98 (by kernel_rfl) bo98
end Go.Proofs.Ytcklhipdldpkhaa.Rx

/- What slices.Clone[[]byte,byte] computes. Own work, printed by a program of the worker's own. -/
namespace Go.Proofs.Ytcklhipdldpkhaa.Rx
open Go
set_option linter.unusedVariables false
set_option maxRecDepth 100000
set_option maxHeartbeats 0
noncomputable def F131b : Fns := F0
theorem F131b_ok : FnsOk tau Try.prog F131b := F0_ok
def an131b : An := (.seq .leaf (.seq (.seq .leaf (.cond (.seq .leaf .leaf) .leaf)) (.seq .leaf .leaf)))
noncomputable def g131b (f : Nat) (s_z : Bool) (s_f : Bool) (s : List PV) (k : Res → Option Res) : Option Res := bif s_z then k (Res.mk (.ro 5 true true []) [] []) else bif roomy (0 + s.length) 1 && true then k (Res.mk (.ow 5 16 [] 0 (0 + s.length) none) [] [.vec false 5 false s]) else none
theorem e131b (f : Nat) (s_z : Bool) (s_f : Bool) (s : List PV) (k : Res → Option Res) : evFn tau F131b Try.f131 (Try.f131.body.get!) an131b [] 0 [.ro 5 s_z s_f s] [] k = g131b f s_z s_f s k := by kernel_rfl
theorem it131b (f : Nat) : items (Try.f131.body.get!) an131b = [] := by kernel_rfl
theorem ia131b (f : Nat) : ∀ q ∈ items (Try.f131.body.get!) an131b, q.Ok tau Try.prog 0 := by
  rw [it131b f]; intro q hq; cases hq
theorem fo131b : Try.prog.funcs[131]? = some Try.f131 := by kernel_rfl
theorem bo131b : Try.f131.body = some (Try.f131.body.get!) := by kernel_rfl
theorem en131b : Enters Try.prog 131 := enters_of fo131b (by kernel_rfl) bo131b
noncomputable def run131b : List PV → List Ent → (Res → Option Res) → Option Res
  | [.ro 5 s_z s_f s], [], k => g131b 0 s_z s_f s k
  | _, _, _ => none
noncomputable def s131b : Sig := { own := [], run := run131b }
theorem ok131b : CallOk tau Try.prog 131 s131b := fn_ok tabOk F131b_ok mixed fo131b bo131b an131b [] 0 [] run131b (ia131b 0) fun xs es k res hr => by
  unfold run131b at hr
  split at hr
  · exact ⟨rfl, 0, (e131b 0 _ _ _  _).trans hr⟩
  · cases hr
end Go.Proofs.Ytcklhipdldpkhaa.Rx

/- What comitia/code.Int computes. Own work, printed by a program of the worker's own. -/
namespace Go.Proofs.Ytcklhipdldpkhaa.Rx
open Go
set_option linter.unusedVariables false
set_option maxRecDepth 100000
set_option maxHeartbeats 0
noncomputable def F97 : Fns := addF 131 s131b (F0)
theorem F97_ok : FnsOk tau Try.prog F97 := (F0_ok).add ok131b en131b
def nm97_0 : Nm := [(0, .any), (1, .any), (5, .own), (6, .any)]
def x97_0 : An := (.seq .leaf (.seq .leaf (.seq .leaf (.seq .leaf (.seq (.seq .leaf (.seq .leaf (.cond .leaf .leaf))) (.seq .leaf .leaf))))))
def an97 : An := (.seq .leaf (.scope nm97_0 x97_0))
noncomputable def g97 (f : Nat) (b_z : Bool) (b_f : Bool) (b : List PV) (n : Int) (k : Res → Option Res) : Option Res := bif b_z then k (Res.mk (.ro 5 false false [.sc (.int .u8 (IntKind.u8.wrap (shrI IntKind.u64 (IntKind.u64.wrap n) (IntKind.i64.wrap (8 * 0))))), .sc (.int .u8 (IntKind.u8.wrap (shrI IntKind.u64 (IntKind.u64.wrap n) (IntKind.i64.wrap (8 * IntKind.i64.wrap (0 + 1)))))), .sc (.int .u8 (IntKind.u8.wrap (shrI IntKind.u64 (IntKind.u64.wrap n) (IntKind.i64.wrap (8 * IntKind.i64.wrap (IntKind.i64.wrap (0 + 1) + 1)))))), .sc (.int .u8 (IntKind.u8.wrap (shrI IntKind.u64 (IntKind.u64.wrap n) (IntKind.i64.wrap (8 * IntKind.i64.wrap (IntKind.i64.wrap (IntKind.i64.wrap (0 + 1) + 1) + 1)))))), .sc (.int .u8 (IntKind.u8.wrap (shrI IntKind.u64 (IntKind.u64.wrap n) (IntKind.i64.wrap (8 * IntKind.i64.wrap (IntKind.i64.wrap (IntKind.i64.wrap (IntKind.i64.wrap (0 + 1) + 1) + 1) + 1)))))), .sc (.int .u8 (IntKind.u8.wrap (shrI IntKind.u64 (IntKind.u64.wrap n) (IntKind.i64.wrap (8 * IntKind.i64.wrap (IntKind.i64.wrap (IntKind.i64.wrap (IntKind.i64.wrap (IntKind.i64.wrap (0 + 1) + 1) + 1) + 1) + 1)))))), .sc (.int .u8 (IntKind.u8.wrap (shrI IntKind.u64 (IntKind.u64.wrap n) (IntKind.i64.wrap (8 * IntKind.i64.wrap (IntKind.i64.wrap (IntKind.i64.wrap (IntKind.i64.wrap (IntKind.i64.wrap (IntKind.i64.wrap (0 + 1) + 1) + 1) + 1) + 1) + 1)))))), .sc (.int .u8 (IntKind.u8.wrap (shrI IntKind.u64 (IntKind.u64.wrap n) (IntKind.i64.wrap (8 * IntKind.i64.wrap (IntKind.i64.wrap (IntKind.i64.wrap (IntKind.i64.wrap (IntKind.i64.wrap (IntKind.i64.wrap (IntKind.i64.wrap (0 + 1) + 1) + 1) + 1) + 1) + 1) + 1))))))]) [] []) else bif roomy (0 + b.length) 1 && true then bif roomy (0 + b.length + 1) 1 && true then bif roomy (0 + b.length + 1 + 1) 1 && true then bif roomy (0 + b.length + 1 + 1 + 1) 1 && true then bif roomy (0 + b.length + 1 + 1 + 1 + 1) 1 && true then bif roomy (0 + b.length + 1 + 1 + 1 + 1 + 1) 1 && true then bif roomy (0 + b.length + 1 + 1 + 1 + 1 + 1 + 1) 1 && true then bif roomy (0 + b.length + 1 + 1 + 1 + 1 + 1 + 1 + 1) 1 && true then bif roomy (0 + b.length + 1 + 1 + 1 + 1 + 1 + 1 + 1 + 1) 1 && true then bif roomy (0 + (List.take (0 + b.length + 1 + 1 + 1 + 1 + 1 + 1 + 1 + 1) (List.take (0 + b.length + 1 + 1 + 1 + 1 + 1 + 1 + 1) (List.take (0 + b.length + 1 + 1 + 1 + 1 + 1 + 1) (List.take (0 + b.length + 1 + 1 + 1 + 1 + 1) (List.take (0 + b.length + 1 + 1 + 1 + 1) (List.take (0 + b.length + 1 + 1 + 1) (List.take (0 + b.length + 1 + 1) (List.take (0 + b.length + 1) (List.take (0 + b.length) b ++ [.sc (.int .u8 (IntKind.u8.wrap (shrI IntKind.u64 (IntKind.u64.wrap n) (IntKind.i64.wrap (8 * 0)))))]) ++ [.sc (.int .u8 (IntKind.u8.wrap (shrI IntKind.u64 (IntKind.u64.wrap n) (IntKind.i64.wrap (8 * IntKind.i64.wrap (0 + 1))))))]) ++ [.sc (.int .u8 (IntKind.u8.wrap (shrI IntKind.u64 (IntKind.u64.wrap n) (IntKind.i64.wrap (8 * IntKind.i64.wrap (IntKind.i64.wrap (0 + 1) + 1))))))]) ++ [.sc (.int .u8 (IntKind.u8.wrap (shrI IntKind.u64 (IntKind.u64.wrap n) (IntKind.i64.wrap (8 * IntKind.i64.wrap (IntKind.i64.wrap (IntKind.i64.wrap (0 + 1) + 1) + 1))))))]) ++ [.sc (.int .u8 (IntKind.u8.wrap (shrI IntKind.u64 (IntKind.u64.wrap n) (IntKind.i64.wrap (8 * IntKind.i64.wrap (IntKind.i64.wrap (IntKind.i64.wrap (IntKind.i64.wrap (0 + 1) + 1) + 1) + 1))))))]) ++ [.sc (.int .u8 (IntKind.u8.wrap (shrI IntKind.u64 (IntKind.u64.wrap n) (IntKind.i64.wrap (8 * IntKind.i64.wrap (IntKind.i64.wrap (IntKind.i64.wrap (IntKind.i64.wrap (IntKind.i64.wrap (0 + 1) + 1) + 1) + 1) + 1))))))]) ++ [.sc (.int .u8 (IntKind.u8.wrap (shrI IntKind.u64 (IntKind.u64.wrap n) (IntKind.i64.wrap (8 * IntKind.i64.wrap (IntKind.i64.wrap (IntKind.i64.wrap (IntKind.i64.wrap (IntKind.i64.wrap (IntKind.i64.wrap (0 + 1) + 1) + 1) + 1) + 1) + 1))))))]) ++ [.sc (.int .u8 (IntKind.u8.wrap (shrI IntKind.u64 (IntKind.u64.wrap n) (IntKind.i64.wrap (8 * IntKind.i64.wrap (IntKind.i64.wrap (IntKind.i64.wrap (IntKind.i64.wrap (IntKind.i64.wrap (IntKind.i64.wrap (IntKind.i64.wrap (0 + 1) + 1) + 1) + 1) + 1) + 1) + 1))))))])).length) 1 && true then k (Res.mk (.ro 5 false false (List.take (0 + (List.take (0 + b.length + 1 + 1 + 1 + 1 + 1 + 1 + 1 + 1) (List.take (0 + b.length + 1 + 1 + 1 + 1 + 1 + 1 + 1) (List.take (0 + b.length + 1 + 1 + 1 + 1 + 1 + 1) (List.take (0 + b.length + 1 + 1 + 1 + 1 + 1) (List.take (0 + b.length + 1 + 1 + 1 + 1) (List.take (0 + b.length + 1 + 1 + 1) (List.take (0 + b.length + 1 + 1) (List.take (0 + b.length + 1) (List.take (0 + b.length) b ++ [.sc (.int .u8 (IntKind.u8.wrap (shrI IntKind.u64 (IntKind.u64.wrap n) (IntKind.i64.wrap (8 * 0)))))]) ++ [.sc (.int .u8 (IntKind.u8.wrap (shrI IntKind.u64 (IntKind.u64.wrap n) (IntKind.i64.wrap (8 * IntKind.i64.wrap (0 + 1))))))]) ++ [.sc (.int .u8 (IntKind.u8.wrap (shrI IntKind.u64 (IntKind.u64.wrap n) (IntKind.i64.wrap (8 * IntKind.i64.wrap (IntKind.i64.wrap (0 + 1) + 1))))))]) ++ [.sc (.int .u8 (IntKind.u8.wrap (shrI IntKind.u64 (IntKind.u64.wrap n) (IntKind.i64.wrap (8 * IntKind.i64.wrap (IntKind.i64.wrap (IntKind.i64.wrap (0 + 1) + 1) + 1))))))]) ++ [.sc (.int .u8 (IntKind.u8.wrap (shrI IntKind.u64 (IntKind.u64.wrap n) (IntKind.i64.wrap (8 * IntKind.i64.wrap (IntKind.i64.wrap (IntKind.i64.wrap (IntKind.i64.wrap (0 + 1) + 1) + 1) + 1))))))]) ++ [.sc (.int .u8 (IntKind.u8.wrap (shrI IntKind.u64 (IntKind.u64.wrap n) (IntKind.i64.wrap (8 * IntKind.i64.wrap (IntKind.i64.wrap (IntKind.i64.wrap (IntKind.i64.wrap (IntKind.i64.wrap (0 + 1) + 1) + 1) + 1) + 1))))))]) ++ [.sc (.int .u8 (IntKind.u8.wrap (shrI IntKind.u64 (IntKind.u64.wrap n) (IntKind.i64.wrap (8 * IntKind.i64.wrap (IntKind.i64.wrap (IntKind.i64.wrap (IntKind.i64.wrap (IntKind.i64.wrap (IntKind.i64.wrap (0 + 1) + 1) + 1) + 1) + 1) + 1))))))]) ++ [.sc (.int .u8 (IntKind.u8.wrap (shrI IntKind.u64 (IntKind.u64.wrap n) (IntKind.i64.wrap (8 * IntKind.i64.wrap (IntKind.i64.wrap (IntKind.i64.wrap (IntKind.i64.wrap (IntKind.i64.wrap (IntKind.i64.wrap (IntKind.i64.wrap (0 + 1) + 1) + 1) + 1) + 1) + 1) + 1))))))])).length) (List.take (0 + b.length + 1 + 1 + 1 + 1 + 1 + 1 + 1 + 1) (List.take (0 + b.length + 1 + 1 + 1 + 1 + 1 + 1 + 1) (List.take (0 + b.length + 1 + 1 + 1 + 1 + 1 + 1) (List.take (0 + b.length + 1 + 1 + 1 + 1 + 1) (List.take (0 + b.length + 1 + 1 + 1 + 1) (List.take (0 + b.length + 1 + 1 + 1) (List.take (0 + b.length + 1 + 1) (List.take (0 + b.length + 1) (List.take (0 + b.length) b ++ [.sc (.int .u8 (IntKind.u8.wrap (shrI IntKind.u64 (IntKind.u64.wrap n) (IntKind.i64.wrap (8 * 0)))))]) ++ [.sc (.int .u8 (IntKind.u8.wrap (shrI IntKind.u64 (IntKind.u64.wrap n) (IntKind.i64.wrap (8 * IntKind.i64.wrap (0 + 1))))))]) ++ [.sc (.int .u8 (IntKind.u8.wrap (shrI IntKind.u64 (IntKind.u64.wrap n) (IntKind.i64.wrap (8 * IntKind.i64.wrap (IntKind.i64.wrap (0 + 1) + 1))))))]) ++ [.sc (.int .u8 (IntKind.u8.wrap (shrI IntKind.u64 (IntKind.u64.wrap n) (IntKind.i64.wrap (8 * IntKind.i64.wrap (IntKind.i64.wrap (IntKind.i64.wrap (0 + 1) + 1) + 1))))))]) ++ [.sc (.int .u8 (IntKind.u8.wrap (shrI IntKind.u64 (IntKind.u64.wrap n) (IntKind.i64.wrap (8 * IntKind.i64.wrap (IntKind.i64.wrap (IntKind.i64.wrap (IntKind.i64.wrap (0 + 1) + 1) + 1) + 1))))))]) ++ [.sc (.int .u8 (IntKind.u8.wrap (shrI IntKind.u64 (IntKind.u64.wrap n) (IntKind.i64.wrap (8 * IntKind.i64.wrap (IntKind.i64.wrap (IntKind.i64.wrap (IntKind.i64.wrap (IntKind.i64.wrap (0 + 1) + 1) + 1) + 1) + 1))))))]) ++ [.sc (.int .u8 (IntKind.u8.wrap (shrI IntKind.u64 (IntKind.u64.wrap n) (IntKind.i64.wrap (8 * IntKind.i64.wrap (IntKind.i64.wrap (IntKind.i64.wrap (IntKind.i64.wrap (IntKind.i64.wrap (IntKind.i64.wrap (0 + 1) + 1) + 1) + 1) + 1) + 1))))))]) ++ [.sc (.int .u8 (IntKind.u8.wrap (shrI IntKind.u64 (IntKind.u64.wrap n) (IntKind.i64.wrap (8 * IntKind.i64.wrap (IntKind.i64.wrap (IntKind.i64.wrap (IntKind.i64.wrap (IntKind.i64.wrap (IntKind.i64.wrap (IntKind.i64.wrap (0 + 1) + 1) + 1) + 1) + 1) + 1) + 1))))))])))) [] []) else none else none else none else none else none else none else none else none else none else none
theorem e97 (f : Nat) (b_z : Bool) (b_f : Bool) (b : List PV) (n : Int) (k : Res → Option Res) : evFn tau F97 Try.f97 (Try.f97.body.get!) an97 [.ro] 12 [.ro 5 b_z b_f b, .sc (.int .i64 n)] [] k = g97 f b_z b_f b n k := by kernel_rfl
theorem it97 (f : Nat) : items (Try.f97.body.get!) an97 = [] := by kernel_rfl
theorem ia97 (f : Nat) : ∀ q ∈ items (Try.f97.body.get!) an97, q.Ok tau Try.prog 0 := by
  rw [it97 f]; intro q hq; cases hq
theorem fo97 : Try.prog.funcs[97]? = some Try.f97 := by kernel_rfl
theorem bo97 : Try.f97.body = some (Try.f97.body.get!) := by kernel_rfl
theorem en97 : Enters Try.prog 97 := enters_of fo97 (by kernel_rfl) bo97
end Go.Proofs.Ytcklhipdldpkhaa.Rx

/- What comitia/comitiaref1.Byte computes. Own work, printed by a program of the worker's own. -/
namespace Go.Proofs.Ytcklhipdldpkhaa.Rx
open Go
set_option linter.unusedVariables false
set_option maxRecDepth 100000
set_option maxHeartbeats 0
end Go.Proofs.Ytcklhipdldpkhaa.Rx

/- What comitia/comitiaref1.Byte computes. Own work, printed by a program of the worker's own. -/
namespace Go.Proofs.Ytcklhipdldpkhaa.Rx
open Go
set_option linter.unusedVariables false
set_option maxRecDepth 100000
set_option maxHeartbeats 0
end Go.Proofs.Ytcklhipdldpkhaa.Rx

/- What comitia/comitiaref1.Int computes. Own work, printed by a program of the worker's own. -/
namespace Go.Proofs.Ytcklhipdldpkhaa.Rx
open Go
set_option linter.unusedVariables false
set_option maxRecDepth 100000
set_option maxHeartbeats 0
end Go.Proofs.Ytcklhipdldpkhaa.Rx

/- What comitia/comitiaref1.Int computes. Own work, printed by a program of the worker's own. -/
namespace Go.Proofs.Ytcklhipdldpkhaa.Rx
open Go
set_option linter.unusedVariables false
set_option maxRecDepth 100000
set_option maxHeartbeats 0
end Go.Proofs.Ytcklhipdldpkhaa.Rx

/- What comitia/comitiaref1.Text computes. Own work, printed by a program of the worker's own. -/
namespace Go.Proofs.Ytcklhipdldpkhaa.Rx
open Go
set_option linter.unusedVariables false
set_option maxRecDepth 100000
set_option maxHeartbeats 0
end Go.Proofs.Ytcklhipdldpkhaa.Rx

-- FN code.Byte | code.Text | code.Int | ref1.Byte | ref1.Int | ref1.Text
/- Bytes are written: numbers, texts. Own work. -/
namespace Go.Proofs.Ytcklhipdldpkhaa.Rx
open Go
set_option linter.unusedVariables false
set_option linter.unusedSimpArgs false
set_option maxRecDepth 100000
set_option maxHeartbeats 1000000
def ib (n i : Int) : Int := IntKind.u8.wrap (shrI .u64 (IntKind.u64.wrap n) (8 * i))
def intB0 (n : Int) : List Int := [ib n 0, ib n 1, ib n 2, ib n 3, ib n 4, ib n 5, ib n 6, ib n 7]
noncomputable def intB : Int → List Int := hid intB0
theorem intB_eq (n : Int) : intB n = intB0 n := by rw [intB, hid_eq]
@[simp] theorem intB_length (n : Int) : (intB n).length = 8 := by rw [intB_eq]; rfl
/-- a text's bytes -/
def bsI0 (s : ByteArray) : List Int := s.data.toList.map fun b => (b.toNat : Int)
noncomputable def bsI : ByteArray → List Int := hid bsI0
theorem bsI_eq (s : ByteArray) : bsI s = bsI0 s := by rw [bsI, hid_eq]
theorem ofBytes_pu (s : ByteArray) : ofBytes s = pu .u8 (bsI s) := by rw [bsI_eq]; simp [ofBytes, pu, bsI0]
@[simp] theorem bsI_length (s : ByteArray) : (bsI s).length = s.size := by rw [bsI_eq]; simp [bsI0]
theorem bsI_by (s : ByteArray) : ∀ x ∈ bsI s, 0 ≤ x ∧ x < 256 := by
  intro x hx
  rw [bsI_eq] at hx
  obtain ⟨b, _, rfl⟩ := List.mem_map.1 hx
  have := b.toNat_lt
  omega
noncomputable def textB0 (s : ByteArray) : List Int := [IntKind.u8.wrap (zi s.size), IntKind.u8.wrap (shrI .i64 (zi s.size) 8)] ++ bsI s
noncomputable def textB : ByteArray → List Int := hid textB0
theorem textB_eq (s : ByteArray) : textB s = textB0 s := by rw [textB, hid_eq]
@[simp] theorem textB_length (s : ByteArray) : (textB s).length = s.size + 2 := by rw [textB_eq]; simp [textB0]
theorem wrap_by (x : Int) : 0 ≤ IntKind.u8.wrap x ∧ IntKind.u8.wrap x < 256 := by rw [wrap_u8_eq]; omega
theorem intB_by (n : Int) : ∀ x ∈ intB n, 0 ≤ x ∧ x < 256 := by
  rw [intB_eq]; intro x hx
  simp only [intB0, List.mem_cons, List.not_mem_nil, or_false] at hx
  rcases hx with h | h | h | h | h | h | h | h <;> (rw [h]; exact wrap_by _)
theorem textB_by (s : ByteArray) : ∀ x ∈ textB s, 0 ≤ x ∧ x < 256 := by
  rw [textB_eq]; intro x hx
  rcases List.mem_append.1 hx with hx | hx
  · simp only [List.mem_cons, List.not_mem_nil, or_false] at hx
    rcases hx with h | h <;> (rw [h]; exact wrap_by _)
  · exact bsI_by s x hx
theorem g97_nil (f : Bool) (b : List PV) (n : Int) (k : Res → Option Res) : g97 0 true f b n k = k ⟨.ro 5 false false (pu .u8 (intB n)), [], []⟩ := by
  rw [intB_eq]; kernel_rfl
theorem g97_b (f : Bool) (b : List PV) (hb : b.length ≤ 1000000000) (n : Int) (k : Res → Option Res) : g97 0 false f b n k = k ⟨.ro 5 false false (b ++ pu .u8 (intB n)), [], []⟩ := by
  rw [intB_eq]
  unfold g97
  refine (bif_f rfl).trans ?_
  repeat (refine (bif_t (by simp [roomy]; omega)).trans ?_)
  repeat rw [List.take_of_length_le (by simp <;> omega)]
  simp only [List.nil_append, List.append_assoc]
  rfl
noncomputable def run97' : List PV → List Ent → (Res → Option Res) → Option Res
  | [.ro 5 z f b, .sc (.int .i64 n)], [], k => bif slB z b then k ⟨.ro 5 false false (b ++ pu .u8 (intB n)), [], []⟩ else none
  | _, _, _ => none
noncomputable def s97' : Sig := { own := [], run := run97' }
theorem ok97' : CallOk tau Try.prog 97 s97' := CallOk.mk' fun xs es k res hl hr => by
  change run97' xs es k = some res at hr
  unfold run97' at hr
  split at hr
  · rename_i z f b n
    obtain ⟨hc, hr2⟩ := of_bif hr
    clear hr
    obtain ⟨h1, h2⟩ := slB_iff.1 hc
    have hg : g97 0 z f b n k = some res := by
      cases z with
      | true => obtain rfl := h1 rfl; rw [g97_nil]; exact hr2
      | false => rw [g97_b f b h2]; exact hr2
    exact fn_at tabOk F97_ok mixed fo97 bo97 an97 [.ro] 0 12 (ia97 0) hl rfl ((e97 0 z f b n k).trans hg)
  · cases hr
theorem extract_all (s : ByteArray) : s.extract 0 s.size = s := by
  apply ByteArray.ext
  simp [ByteArray.data_extract]
end Go.Proofs.Ytcklhipdldpkhaa.Rx

/- What is written is read again: a message. Own work. -/
namespace Go.Proofs.Ytcklhipdldpkhaa.Rx
open Go
set_option linter.unusedVariables false
set_option linter.unusedSimpArgs false
set_option maxRecDepth 100000
set_option maxHeartbeats 1000000
theorem ib_eq (n : Int) (i : Nat) (h : 8 * i < 64) : ib n i = (n % 18446744073709551616) / (2 ^ (8 * i)) % 256 := by
  unfold ib shrI
  rw [wrap_u8_eq, wrap_u64_eq]
  have : min (8 * (i : Int)).toNat IntKind.u64.bits = 8 * i := by
    show min _ 64 = _
    omega
  rw [this, Int.fdiv_eq_ediv_of_nonneg _ (Int.pow_nonneg (by decide))]
theorem numL_intB (n : Int) : numL (intB n) = n % 18446744073709551616 := by
  rw [intB_eq]
  simp only [intB0, numL]
  have e0 : ib n 0 = n % 18446744073709551616 / 2 ^ (8 * 0) % 256 := ib_eq n 0 (by decide)
  have e1 : ib n 1 = n % 18446744073709551616 / 2 ^ (8 * 1) % 256 := ib_eq n 1 (by decide)
  have e2 : ib n 2 = n % 18446744073709551616 / 2 ^ (8 * 2) % 256 := ib_eq n 2 (by decide)
  have e3 : ib n 3 = n % 18446744073709551616 / 2 ^ (8 * 3) % 256 := ib_eq n 3 (by decide)
  have e4 : ib n 4 = n % 18446744073709551616 / 2 ^ (8 * 4) % 256 := ib_eq n 4 (by decide)
  have e5 : ib n 5 = n % 18446744073709551616 / 2 ^ (8 * 5) % 256 := ib_eq n 5 (by decide)
  have e6 : ib n 6 = n % 18446744073709551616 / 2 ^ (8 * 6) % 256 := ib_eq n 6 (by decide)
  have e7 : ib n 7 = n % 18446744073709551616 / 2 ^ (8 * 7) % 256 := ib_eq n 7 (by decide)
  simp only [Nat.reduceMul, Int.reducePow] at e0 e1 e2 e3 e4 e5 e6 e7
  omega
theorem wrap_i64_emod (n : Int) : IntKind.i64.wrap (n % 18446744073709551616) = IntKind.i64.wrap n := by
  have h : n % 18446744073709551616 % 18446744073709551616 = n % 18446744073709551616 := Int.emod_emod_of_dvd n (Int.dvd_refl _)
  show (if _ then _ else _) = (if _ then _ else _)
  have e : ∀ x : Int, x % 2 ^ IntKind.i64.bits = x % 18446744073709551616 := fun x => rfl
  simp only [e, h]
def i64B (n : Int) : Bool := decide (-9223372036854775808 ≤ n) && decide (n < 9223372036854775808)
theorem wrap_i64_mod {n : Int} (h : i64B n = true) : IntKind.i64.wrap (n % 18446744073709551616) = n := by
  simp only [i64B, Bool.and_eq_true, decide_eq_true_eq] at h
  have e : IntKind.i64.wrap (n % 18446744073709551616) = IntKind.i64.wrap n := wrap_i64_emod n
  rw [e]; exact wrap_i64 h.1 h.2
theorem out_pu (l : List Int) (r : List PV) {n : Nat} (h : l.length = n) : outS0 n ⟨pu .u8 l ++ r, 0⟩ = pu .u8 l := by
  unfold outS0 okS0
  have : Nat.ble n (pu .u8 l ++ r).length = true := (Nat.ble_eq ▸ (by simp; omega) : Nat.ble n (pu .u8 l ++ r).length = true)
  rw [this]
  show List.take n (pu .u8 l ++ r) = _
  rw [List.take_append_of_le_length (by simp; omega), List.take_of_length_le (by simp; omega)]
theorem step_pu (l : List Int) (r : List PV) {n : Nat} (h : l.length = n) : stepS0 n ⟨pu .u8 l ++ r, 0⟩ = ⟨r, 0⟩ := by
  unfold stepS0 okS0
  have : Nat.ble n (pu .u8 l ++ r).length = true := (Nat.ble_eq ▸ (by simp; omega) : Nat.ble n (pu .u8 l ++ r).length = true)
  rw [this]
  show RS.mk (List.drop n (pu .u8 l ++ r)) 0 = _
  rw [List.drop_append_of_le_length (by simp; omega), List.drop_of_length_le (by simp; omega), List.nil_append]
theorem num_pu (l : List Int) (r : List PV) {n : Nat} (h : l.length = n) : numS0 n ⟨pu .u8 l ++ r, 0⟩ = IntKind.i64.wrap (numL l) := by
  unfold numS0; rw [out_pu l r h, ints_pu]
theorem num_int {n : Int} (h : i64B n = true) (r : List PV) : numS 8 ⟨pu .u8 (intB n) ++ r, 0⟩ = n := by
  rw [numS_eq, num_pu _ _ (intB_length n), numL_intB, wrap_i64_mod h]
theorem step_int (n : Int) (r : List PV) : stepS 8 ⟨pu .u8 (intB n) ++ r, 0⟩ = ⟨r, 0⟩ := by
  rw [stepS_eq, step_pu _ _ (intB_length n)]
theorem num_byte (n : Int) (r : List PV) : numS 1 ⟨pu .u8 [IntKind.u8.wrap n] ++ r, 0⟩ = IntKind.u8.wrap n := by
  rw [numS_eq, num_pu [IntKind.u8.wrap n] r (n := 1) rfl]
  have := wrap_by n
  simp only [numL]
  rw [wrap_i64 (by omega) (by omega)]; omega
theorem step_byte (n : Int) (r : List PV) : stepS 1 ⟨pu .u8 [IntKind.u8.wrap n] ++ r, 0⟩ = ⟨r, 0⟩ := by
  rw [stepS_eq, step_pu [IntKind.u8.wrap n] r (n := 1) rfl]
noncomputable def numsB (l : List Int) : List Int := l.flatMap intB
theorem numsB_length (l : List Int) : (numsB l).length = 8 * l.length := by
  induction l with
  | nil => rfl
  | cons x l ih => simp only [numsB, List.flatMap_cons, List.length_append, intB_length, List.length_cons] at ih ⊢; omega
theorem numsB_by (l : List Int) : ∀ x ∈ numsB l, 0 ≤ x ∧ x < 256 := by
  intro x hx
  obtain ⟨n, _, h⟩ := List.mem_flatMap.1 hx
  exact intB_by n x h
theorem fS_nums (kd : Int) (ns : List Int) (r : List PV) : ∀ n, n ≤ ns.length →
    fS (n + 1) ⟨pu .u8 [IntKind.u8.wrap kd] ++ (pu .u8 (numsB ns) ++ r), 0⟩ = ⟨pu .u8 (numsB (ns.drop n)) ++ r, 0⟩
  | 0, _ => by rw [fS, step_byte]; rfl
  | n + 1, h => by
      rw [fS, fS_nums kd ns r n (by omega)]
      have hd : ns.drop n = ns.getD n 0 :: ns.drop (n + 1) := by
        rw [List.drop_eq_getElem_cons (by omega)]; simp [List.getD_eq_getElem?_getD, show n < ns.length by omega]
      rw [hd]
      simp only [numsB, List.flatMap_cons, pu_append, List.append_assoc]
      rw [step_int]
theorem fld_nums (kd : Int) (ns : List Int) (r : List PV) (n : Nat) (h : n < ns.length) (hi : i64B (ns.getD n 0) = true) :
    fld (n + 1) ⟨pu .u8 [IntKind.u8.wrap kd] ++ (pu .u8 (numsB ns) ++ r), 0⟩ = ns.getD n 0 := by
  rw [fld_eq, fld0, fS_nums kd ns r n (by omega)]
  have hd : ns.drop n = ns.getD n 0 :: ns.drop (n + 1) := by
    rw [List.drop_eq_getElem_cons (by omega)]; simp [List.getD_eq_getElem?_getD, h]
  rw [hd]
  simp only [numsB, List.flatMap_cons, pu_append, List.append_assoc]
  exact num_int hi _
theorem fld_kind (kd : Int) (r : List PV) : fld 0 ⟨pu .u8 [IntKind.u8.wrap kd] ++ r, 0⟩ = IntKind.u8.wrap kd := by
  rw [fld_eq, fld0, num_byte]
noncomputable def textsB (l : List ByteArray) : List Int := l.flatMap textB
theorem textsB_by (l : List ByteArray) : ∀ x ∈ textsB l, 0 ≤ x ∧ x < 256 := by
  intro x hx
  obtain ⟨n, _, h⟩ := List.mem_flatMap.1 hx
  exact textB_by n x h
theorem txt_val {t : ByteArray} (h : t.size ≤ 65535) (r : List PV) : txtV ⟨pu .u8 (textB t) ++ r, 0⟩ = t ∧ txtS ⟨pu .u8 (textB t) ++ r, 0⟩ = ⟨r, 0⟩ := by
  have hn : ∀ r, numS0 2 ⟨pu .u8 [IntKind.u8.wrap (zi t.size), IntKind.u8.wrap (shrI .i64 (zi t.size) 8)] ++ r, 0⟩ = (t.size : Int) := by
    intro r
    rw [num_pu [IntKind.u8.wrap (zi t.size), IntKind.u8.wrap (shrI .i64 (zi t.size) 8)] r (n := 2) rfl]
    simp only [numL, shrI, wrap_u8_eq, zi]
    have : min (8 : Int).toNat IntKind.i64.bits = 8 := by decide
    rw [this, Int.fdiv_eq_ediv_of_nonneg _ (by decide), wrap_i64 (by omega) (by omega)]
    omega
  have hs : ∀ r, stepS0 2 ⟨pu .u8 [IntKind.u8.wrap (zi t.size), IntKind.u8.wrap (shrI .i64 (zi t.size) 8)] ++ r, 0⟩ = ⟨r, 0⟩ := fun r => step_pu _ _ rfl
  have he : pu .u8 (textB t) ++ r = pu .u8 [IntKind.u8.wrap (zi t.size), IntKind.u8.wrap (shrI .i64 (zi t.size) 8)] ++ (pu .u8 (bsI t) ++ r) := by
    rw [textB_eq, textB0, pu_append, List.append_assoc]
  rw [txtV_eq, txtS_eq, he]
  unfold txtV0 txtS0
  rw [hn, hs, Int.toNat_natCast, out_pu _ _ (bsI_length t), step_pu _ _ (bsI_length t)]
  refine ⟨?_, rfl⟩
  rw [← ofBytes_pu]
  apply ByteArray.ext
  apply Array.ext'
  show toBytes (ofBytes t) = t.data.toList
  simp only [ofBytes]
  generalize t.data.toList = l
  induction l with
  | nil => rfl
  | cons x l ih =>
    simp only [List.map_cons, toBytes, ih, PV.int]
    congr 1
    simp
theorem tx_all : ∀ (l : List ByteArray) (r : List PV), (∀ t ∈ l, t.size ≤ 65535) → txL l.length ⟨pu .u8 (textsB l) ++ r, 0⟩ = l.map bodyP ∧ txR l.length ⟨pu .u8 (textsB l) ++ r, 0⟩ = ⟨r, 0⟩
  | [], r, _ => ⟨rfl, rfl⟩
  | t :: l, r, h => by
      have h1 := fun r => txt_val (h t List.mem_cons_self) r
      have h2 := tx_all l r fun x hx => h x (List.mem_cons_of_mem _ hx)
      simp only [textsB, List.flatMap_cons, pu_append, List.append_assoc] at h2 ⊢
      simp only [List.length_cons, txL, txR, (h1 _).1, (h1 _).2, h2.1, h2.2, List.map_cons, and_self]
theorem run_pu : ∀ (l : List Int) (r : List PV), (∀ x ∈ l, 0 ≤ x ∧ x < 256) → runB l.length ⟨pu .u8 l ++ r, 0⟩ = ⟨r, 0⟩ ∧ runH l.length ⟨pu .u8 l ++ r, 0⟩ = l
  | [], r, _ => ⟨rfl, rfl⟩
  | x :: l, r, h => by
      have h2 := run_pu l r fun y hy => h y (List.mem_cons_of_mem _ hy)
      have hx := h x List.mem_cons_self
      have e1 : stepS0 1 ⟨pu .u8 (x :: l) ++ r, 0⟩ = ⟨pu .u8 l ++ r, 0⟩ := by
        rw [show pu .u8 (x :: l) ++ r = pu .u8 [x] ++ (pu .u8 l ++ r) from rfl, step_pu [x] _ (n := 1) rfl]
      have e2 : numS0 1 ⟨pu .u8 (x :: l) ++ r, 0⟩ = x := by
        rw [show pu .u8 (x :: l) ++ r = pu .u8 [x] ++ (pu .u8 l ++ r) from rfl, num_pu [x] _ (n := 1) rfl]
        simp only [numL]
        rw [wrap_i64 (by omega) (by omega)]; omega
      simp only [List.length_cons, runB, runH, e1, e2, h2.1, h2.2, true_and]
      rw [wrap_u8_eq]; congr 1; omega
noncomputable def msgB (kd : Int) (ns : List Int) (ts : List ByteArray) : List Int := [IntKind.u8.wrap kd] ++ (numsB ns ++ ([IntKind.u8.wrap (zi ts.length)] ++ textsB ts))
theorem msgB_by (kd : Int) (ns : List Int) (ts : List ByteArray) : ∀ x ∈ msgB kd ns ts, 0 ≤ x ∧ x < 256 := by
  intro x hx
  simp only [msgB, List.mem_append, List.mem_singleton] at hx
  rcases hx with rfl | h | rfl | h
  · exact wrap_by _
  · exact numsB_by ns x h
  · exact wrap_by _
  · exact textsB_by ts x h
structure MsgOk (ns : List Int) (ts : List ByteArray) (h : List Int) : Prop where
  len : ns.length = 12
  num : ∀ n, n < 12 → i64B (ns.getD n 0) = true
  cnt : ts.length ≤ 4
  txt : ∀ t ∈ ts, t.size ≤ 65535
  sum : h.length = 32
  sumB : ∀ x ∈ h, 0 ≤ x ∧ x < 256
theorem msg_read {kd : Int} {ns : List Int} {ts : List ByteArray} {h : List Int} (o : MsgOk ns ts h) :
    let s : RS := ⟨pu .u8 (msgB kd ns ts) ++ pu .u8 h, 0⟩
    fld 0 s = IntKind.u8.wrap kd ∧ (∀ n, n < 12 → fld (n + 1) s = ns.getD n 0) ∧ bodL s = ts.map bodyP ∧ msgE s = ⟨[], 0⟩ ∧ msgH s = h := by
  intro s
  have hs : s = ⟨pu .u8 [IntKind.u8.wrap kd] ++ (pu .u8 (numsB ns) ++ (pu .u8 [IntKind.u8.wrap (zi ts.length)] ++ (pu .u8 (textsB ts) ++ pu .u8 h))), 0⟩ := by
    show RS.mk _ _ = _
    simp only [msgB, pu_append, List.append_assoc]
  have hf : fS 13 s = ⟨pu .u8 [IntKind.u8.wrap (zi ts.length)] ++ (pu .u8 (textsB ts) ++ pu .u8 h), 0⟩ := by
    rw [hs, fS_nums kd ns _ 12 (by rw [o.len]; exact Nat.le_refl _), List.drop_of_length_le (by rw [o.len]; exact Nat.le_refl _)]; rfl
  have hc : cntS s = (ts.length : Int) := by
    rw [cntS, hf, num_byte, wrap_u8_eq]
    have := o.cnt
    simp only [zi]; omega
  have h4 : decide (cntS s > 4) = false := by
    rw [hc]; have := o.cnt; simp; omega
  have hN : msgN s = ts.length := by unfold msgN; rw [h4, hc]; simp
  have hS : msgS s = ⟨pu .u8 (textsB ts) ++ pu .u8 h, 0⟩ := by unfold msgS; rw [h4, cond_false, hf, step_byte]
  have ht := tx_all ts (pu .u8 h) o.txt
  have hr := run_pu h [] o.sumB
  rw [o.sum, List.append_nil] at hr
  refine ⟨?_, ?_, ?_, ?_, ?_⟩
  · rw [hs]; exact fld_kind kd _
  · intro n hn; rw [hs]; exact fld_nums kd ns _ n (by rw [o.len]; exact hn) (o.num n hn)
  · rw [bodL_eq, hN, hS, ht.1]
  · rw [msgE_eq, hN, hS, ht.2, hashS_eq, hr.1]
  · rw [msgH_eq, hN, hS, ht.2, hashV_eq, hr.2]
theorem parE_msg {l : List PV} {kd : Int} {ns : List Int} {ts : List ByteArray} {h : List Int} (o : MsgOk ns ts h) (hl : (msgB kd ns ts).length ≤ 8160) :
    parE0 ⟨l, pu .u8 (msgB kd ns ts) ++ pu .u8 h⟩ =
      bif chk ⟨IntKind.u8.wrap kd, ns.getD 0 0, ns.getD 1 0, ns.getD 2 0, ns.getD 3 0, ns.getD 4 0, ns.getD 5 0, ns.getD 6 0, ns.getD 7 0, ns.getD 8 0, ns.getD 9 0, ns.getD 10 0, ns.getD 11 0⟩ == 0 then
        (bif macP (ints (keyF ⟨l, ns.getD 0 0⟩)) (msgB kd ns ts) == h then 0 else 14)
      else chk ⟨IntKind.u8.wrap kd, ns.getD 0 0, ns.getD 1 0, ns.getD 2 0, ns.getD 3 0, ns.getD 4 0, ns.getD 5 0, ns.getD 6 0, ns.getD 7 0, ns.getD 8 0, ns.getD 9 0, ns.getD 10 0, ns.getD 11 0⟩ := by
  obtain ⟨m0, m1, m2, m3, m4⟩ := msg_read (kd := kd) o
  have hc : parC ⟨pu .u8 (msgB kd ns ts) ++ pu .u8 h, 0⟩ = chk ⟨IntKind.u8.wrap kd, ns.getD 0 0, ns.getD 1 0, ns.getD 2 0, ns.getD 3 0, ns.getD 4 0, ns.getD 5 0, ns.getD 6 0, ns.getD 7 0, ns.getD 8 0, ns.getD 9 0, ns.getD 10 0, ns.getD 11 0⟩ := by
    unfold parC
    rw [m0, m1 0 (by decide), m1 1 (by decide), m1 2 (by decide), m1 3 (by decide), m1 4 (by decide), m1 5 (by decide), m1 6 (by decide), m1 7 (by decide), m1 8 (by decide), m1 9 (by decide), m1 10 (by decide), m1 11 (by decide)]
  have hL : (pu .u8 (msgB kd ns ts) ++ pu .u8 h).length = (msgB kd ns ts).length + 32 := by simp [o.sum]
  have hm : parM ⟨l, pu .u8 (msgB kd ns ts) ++ pu .u8 h⟩ = macP (ints (keyF ⟨l, ns.getD 0 0⟩)) (msgB kd ns ts) := by
    unfold parM
    simp only [hL, Nat.add_sub_cancel]
    rw [m1 0 (by decide), List.take_append_of_le_length (by simp), List.take_of_length_le (by simp), ints_pu]
  unfold parE0
  simp only [hL, hc, hm, m3, m4]
  rw [show decide ((msgB kd ns ts).length + 32 > 8192) = false by simp; omega]
  rfl
end Go.Proofs.Ytcklhipdldpkhaa.Rx

/- What the types say of what is handed in. Own work. -/
namespace Go.Proofs.Ytcklhipdldpkhaa.Rx
open Go
set_option linter.unusedVariables false
set_option linter.unusedSimpArgs false
set_option maxRecDepth 100000
theorem tyL2 {τ : Tab} {m : Nat} {a b : TypeId} {pvs : List PV} (h : TyL τ m [a, b] pvs) : ∃ p q, pvs = [p, q] ∧ Ty τ m a p ∧ Ty τ m b q := by
  match pvs, h with
  | [p, q], h => exact ⟨p, q, rfl, h.1, h.2.1⟩
theorem ty_rows {n : Nat} (l : List PV) (h : ∀ q ∈ l, Ty tau (n + 2) 29 q) : l.all (PV.isRo 5) = true ∧ allInt .u8 (flat l) = true := by
  have u1 : tau.und 29 = some (.slice 5) := by kernel_rfl
  have u2 : tau.und 5 = some (.int .u8) := by kernel_rfl
  induction l with
  | nil => exact ⟨rfl, rfl⟩
  | cons p ps ih =>
    obtain ⟨i1, i2⟩ := ih fun q hq => h q (List.mem_cons_of_mem _ hq)
    obtain ⟨nl, els, rfl, _, _, t⟩ := ty_slice u1 (h p List.mem_cons_self)
    refine ⟨by simp [PV.isRo, i1], ?_⟩
    rw [flat_cons, allInt_append, i2]
    simp only [PV.els, Bool.and_true]
    exact ty_ints u2 els t
theorem flat_one (e : TypeId) (a b : Bool) (l : List PV) : flat [.ro e a b l] = l := by simp [PV.els]
end Go.Proofs.Ytcklhipdldpkhaa.Rx

-- FN law9.Keys | law16.Good | law16.Few
/- Keys, valid messages, messages that are not too much. Own work. -/
namespace Go.Proofs.Ytcklhipdldpkhaa.Rx
open Go
set_option linter.unusedVariables false
set_option linter.unusedSimpArgs false
set_option maxRecDepth 100000
set_option maxHeartbeats 1000000
noncomputable def kb : Nat → List PV → List PV := hid fun i b => pu .u8 [107, 48 + i] ++ b.take 60
theorem kb_eq (i : Nat) (b : List PV) : kb i b = pu .u8 [107, 48 + i] ++ b.take 60 := by rw [kb, hid_eq]
theorem kb_ok (i : Nat) {b : List PV} (h : allInt .u8 b = true) : kOk (kb i b) = true := by
  rw [kb_eq]; unfold kOk
  have h2 : allInt .u8 (b.take 60) = true := by
    rw [pu_ints h, pu_take]; simp
  rw [allInt_append, h2, allInt_pu]
  simp; omega
noncomputable def run21' : List PV → List Ent → (Res → Option Res) → Option Res
  | [.ro 5 z f b], [], k => k ⟨.st 31 [.ro 5 false false (kb 0 b), .ro 5 false false (kb 1 b), .ro 5 false false (kb 2 b)], [], []⟩
  | _, _, _ => none
noncomputable def s21' : Sig := { own := [], run := run21' }
theorem min60 (n m : Nat) : (minI (zi n) m).toNat = min n m := by unfold minI; simp only [zi]; split <;> omega
theorem ok21' : CallOk tau Try.prog 21 s21' := ok21.of fun xs es k res hr => by
  change run21' xs es k = some res at hr
  unfold run21' at hr
  split at hr
  · rename_i z f b
    show g21 0 z f b k = some res
    have hm : (minI (zi b.length) 60).toNat = min b.length 60 := min60 b.length 60
    have ht : List.take (min b.length 60) b = b.take 60 := by rw [Nat.min_comm, List.take_eq_take_iff]; omega
    have hl : (b.take 60).length ≤ 60 := by simp; omega
    have e : ∀ x y : Int, List.take (2 + (b.take 60).length) (.sc (.int .u8 x) :: .sc (.int .u8 y) :: id (b.take 60)) = .sc (.int .u8 x) :: .sc (.int .u8 y) :: b.take 60 := fun x y => List.take_of_length_le (by simp; omega)
    have hk : ∀ i, kb i b = .sc (.int .u8 107) :: .sc (.int .u8 (48 + i)) :: b.take 60 := fun i => by rw [kb_eq]; simp
    unfold g21
    simp only [hm, ht, e]
    have hr4 : roomy (2 + (b.take 60).length) 1 = true := by simp only [roomy, Nat.mul_one, decide_eq_true_eq]; omega
    rw [bif_t (by simp; unfold minI; simp only [zi]; split <;> omega), hr4]
    simp only [hk] at hr
    exact hr
  · cases hr
def goodF0 : Nat → C13 → Int
  | 0, c => 1 + c.kd % 5
  | 1, c => c.fr % 3
  | 2, c => (c.fr % 3 + 1 + c.to % 2) % 3
  | 3, c => c.wh % 3
  | 4, c => c.wn % 100
  | 5, c => c.cd % 3
  | 6, c => c.cu % 8
  | 7, c => c.ve % 1073741824
  | 8, c => c.co % 1073741824
  | 9, c => c.ad % 3
  | 10, c => c.au % 8
  | 11, c => c.su % 1073741824
  | _, c => c.er % 256
noncomputable def goodF : Nat → C13 → Int := hid goodF0
theorem goodF_eq (i : Nat) (c : C13) : goodF i c = goodF0 i c := by rw [goodF, hid_eq]
noncomputable abbrev gcOf (c : C13) : C13 := ⟨goodF 0 c, goodF 1 c, goodF 2 c, goodF 3 c, goodF 4 c, goodF 5 c, goodF 6 c, goodF 7 c, goodF 8 c, goodF 9 c, goodF 10 c, goodF 11 c, goodF 12 c⟩
noncomputable def gB : List PV → List PV := hid fun l => l.take 4
theorem gB_eq (l : List PV) : gB l = l.take 4 := by rw [gB, hid_eq]
noncomputable def run33' : List PV → List Ent → (Res → Option Res) → Option Res
  | [.st 54 [.sc (.int .i64 kd), .sc (.int .i64 fr), .sc (.int .i64 to), .st 34 [.sc (.int .i64 wh), .sc (.int .i64 wn)], .st 45 [.sc (.int .i64 cd), .sc (.int .i64 cu)], .sc (.int .i64 ve), .sc (.int .i64 co), .st 45 [.sc (.int .i64 ad), .sc (.int .i64 au)], .sc (.int .i64 su), .sc (.int .i64 er), .ro 29 z f l]], [], k =>
    k ⟨.st 54 [.sc (.int .i64 (goodF 0 ⟨kd, fr, to, wh, wn, cd, cu, ve, co, ad, au, su, er⟩)), .sc (.int .i64 (goodF 1 ⟨kd, fr, to, wh, wn, cd, cu, ve, co, ad, au, su, er⟩)), .sc (.int .i64 (goodF 2 ⟨kd, fr, to, wh, wn, cd, cu, ve, co, ad, au, su, er⟩)), .st 34 [.sc (.int .i64 (goodF 3 ⟨kd, fr, to, wh, wn, cd, cu, ve, co, ad, au, su, er⟩)), .sc (.int .i64 (goodF 4 ⟨kd, fr, to, wh, wn, cd, cu, ve, co, ad, au, su, er⟩))], .st 45 [.sc (.int .i64 (goodF 5 ⟨kd, fr, to, wh, wn, cd, cu, ve, co, ad, au, su, er⟩)), .sc (.int .i64 (goodF 6 ⟨kd, fr, to, wh, wn, cd, cu, ve, co, ad, au, su, er⟩))], .sc (.int .i64 (goodF 7 ⟨kd, fr, to, wh, wn, cd, cu, ve, co, ad, au, su, er⟩)), .sc (.int .i64 (goodF 8 ⟨kd, fr, to, wh, wn, cd, cu, ve, co, ad, au, su, er⟩)), .st 45 [.sc (.int .i64 (goodF 9 ⟨kd, fr, to, wh, wn, cd, cu, ve, co, ad, au, su, er⟩)), .sc (.int .i64 (goodF 10 ⟨kd, fr, to, wh, wn, cd, cu, ve, co, ad, au, su, er⟩))], .sc (.int .i64 (goodF 11 ⟨kd, fr, to, wh, wn, cd, cu, ve, co, ad, au, su, er⟩)), .sc (.int .i64 (goodF 12 ⟨kd, fr, to, wh, wn, cd, cu, ve, co, ad, au, su, er⟩)), .ro 29 z z (gB l)], [], []⟩
  | _, _, _ => none
noncomputable def s33' : Sig := { own := [], run := run33' }
theorem ok33' : CallOk tau Try.prog 33 s33' := ok33.of fun xs es k res hr => by
  change run33' xs es k = some res at hr
  unfold run33' at hr
  split at hr
  · rename_i kd fr to wh wn cd cu ve co ad au su er z f l
    show g33 0 kd fr to wh wn cd cu ve co ad au su er z f l k = some res
    have hm : (minI (zi l.length) 4).toNat = min l.length 4 := min60 l.length 4
    have ht : List.take (min l.length 4) l = l.take 4 := by rw [Nat.min_comm, List.take_eq_take_iff]; omega
    have hk : IntKind.i64.wrap (1 + kd % 5) = 1 + kd % 5 := wrap_i64 (by omega) (by omega)
    have hw : (IntKind.i64.wrap (IntKind.i64.wrap (fr % 3 + 1) + to % 2)).tmod 3 = (fr % 3 + 1 + to % 2) % 3 := by
      rw [wrap_i64 (x := fr % 3 + 1) (by omega) (by omega), wrap_i64 (by omega) (by omega), Int.tmod_eq_emod_of_nonneg (by omega)]
    simp only [goodF_eq, gB_eq, goodF0] at hr
    unfold g33
    have hW : ∀ n : Int, 0 < n → n < 1000000000000 → okW n = true := fun n h1 h2 => by rw [okW_eq, Bool.and_eq_true, decide_eq_true_eq, decide_eq_true_eq]; exact ⟨h1, h2⟩
    simp only [hm, ht, hk, hw, hW 5 (by decide) (by decide), hW 3 (by decide) (by decide), hW 100 (by decide) (by decide), hW 2 (by decide) (by decide), hW 8 (by decide) (by decide), hW 1073741824 (by decide) (by decide), hW 256 (by decide) (by decide), cond_true, Bool.and_false, Bool.or_false]
    rw [bif_t (by simp; unfold minI; simp only [zi]; split <;> omega)]
    exact hr
  · cases hr
noncomputable def fewB : List PV → Bool := hid fun l => l.all (fun p => decide (p.els.length ≤ 200)) && decide (l.length ≤ 6)
theorem fewB_eq (l : List PV) : fewB l = (l.all (fun p => decide (p.els.length ≤ 200)) && decide (l.length ≤ 6)) := by rw [fewB, hid_eq]
noncomputable def run32' : List PV → List Ent → (Res → Option Res) → Option Res
  | [.st 54 [.sc (.int .i64 kd), .sc (.int .i64 fr), .sc (.int .i64 to), .st 34 [.sc (.int .i64 wh), .sc (.int .i64 wn)], .st 45 [.sc (.int .i64 cd), .sc (.int .i64 cu)], .sc (.int .i64 ve), .sc (.int .i64 co), .st 45 [.sc (.int .i64 ad), .sc (.int .i64 au)], .sc (.int .i64 su), .sc (.int .i64 er), .ro 29 z f l]], [], k =>
    bif l.all (PV.isRo 5) && Nat.ble l.length 9223372036854775807 then k ⟨.sc (.bool (fewB l)), [], []⟩ else none
  | _, _, _ => none
noncomputable def s32' : Sig := { own := [], run := run32' }
theorem l32_0 (l : List PV) (h1 : l.all (PV.isRo 5) = true) (h2 : l.length ≤ 9223372036854775807) (f : Nat) (k0 : Bool → Int → Int → Int → Int → Int → Int → Int → Int → Int → Int → Int → Int → Int → Bool → Bool → List PV → Option Res) (k1 : Int → Int → Int → Int → Int → Int → Int → Int → Int → Int → Int → Int → Int → Bool → Bool → List PV → Option Res) (R : Option Res)
    (kd fr to wh wn cd cu ve co ad au su er : Int) (z fl : Bool) (hk0 : ∀ p ∈ l, p.els.length > 200 → k0 false kd fr to wh wn cd cu ve co ad au su er z fl l = R) (hk1 : (∀ p ∈ l, p.els.length ≤ 200) → k1 kd fr to wh wn cd cu ve co ad au su er z fl l = R) :
    ∀ (d i n : Nat), i + d = l.length → d < n → (∀ p ∈ l.take i, p.els.length ≤ 200) → lp32_0 f k0 k1 n (i : Int) kd fr to wh wn cd cu ve co ad au su er z fl l = R
  | 0, i, n + 1, hi, hn, hp => by
      obtain rfl : i = l.length := by omega
      rw [List.take_length] at hp
      simp only [lp32_0, lpS32_0]
      exact (bif_f (by simp [zi])).trans (hk1 hp)
  | d + 1, i, n + 1, hi, hn, hp => by
      have g1 : ((i : Int)).toNat = i := by omega
      have w1 : IntKind.i64.wrap ((i : Int) + 1) = ((i + 1 : Nat) : Int) := by rw [wrap_i64 (by omega) (by omega)]; omega
      simp only [lp32_0, lpS32_0, g1, w1]
      refine (bif_t (by simp [zi]; omega)).trans ((bif_t (by rw [isRo_getD h1 (by omega)]; simp [zi]; omega)).trans ?_)
      have hmem : l.getD i .top ∈ l := by rw [List.getD_eq_getElem?_getD, List.getElem?_eq_getElem (by omega)]; exact List.getElem_mem (by omega)
      by_cases hc : (l.getD i .top).els.length > 200
      · exact (bif_t (by simp only [zi, decide_eq_true_eq]; omega)).trans (hk0 _ hmem hc)
      · refine (bif_f (by simp only [zi, decide_eq_false_iff_not]; omega)).trans ?_
        refine l32_0 l h1 h2 f k0 k1 R kd fr to wh wn cd cu ve co ad au su er z fl hk0 hk1 d (i + 1) n (by omega) (by omega) fun p hp2 => ?_
        rw [List.take_add_one] at hp2
        rcases List.mem_append.1 hp2 with hp2 | hp2
        · exact hp p hp2
        · rw [List.getElem?_eq_getElem (by omega)] at hp2
          simp only [Option.toList_some, List.mem_singleton] at hp2
          rw [hp2]
          rw [List.getD_eq_getElem?_getD, List.getElem?_eq_getElem (by omega)] at hc
          simpa using hc
theorem g32_eq (kd fr to wh wn cd cu ve co ad au su er : Int) (z f : Bool) (l : List PV) (h1 : l.all (PV.isRo 5) = true) (h2 : l.length ≤ 9223372036854775807) (k : Res → Option Res) : g32 (l.length + 2) kd fr to wh wn cd cu ve co ad au su er z f l k = k ⟨.sc (.bool (fewB l)), [], []⟩ := by
  unfold g32
  refine l32_0 l h1 h2 (l.length + 2) _ _ _ kd fr to wh wn cd cu ve co ad au su er z f (fun p hp hc => ?_) (fun hp => ?_) l.length 0 (l.length + 2) (by omega) (by omega) (by simp)
  · have : fewB l = false := by
      rw [fewB_eq]
      have : l.all (fun p => decide (p.els.length ≤ 200)) = false := List.all_eq_false.2 ⟨p, hp, by simp; omega⟩
      rw [this]; rfl
    rw [this]
  · have : fewB l = decide (zi l.length ≤ 6) := by
      rw [fewB_eq, show l.all (fun p => decide (p.els.length ≤ 200)) = true from List.all_eq_true.2 fun p hq => by simpa using hp p hq, Bool.true_and]
      apply decide_eq_decide.2; simp only [zi]; omega
    rw [this]
theorem ok32' : CallOk tau Try.prog 32 s32' := CallOk.mk' fun xs es k res hl hr => by
  change run32' xs es k = some res at hr
  unfold run32' at hr
  split at hr
  · rename_i kd fr to wh wn cd cu ve co ad au su er z f l
    obtain ⟨hc, hr⟩ := of_bif hr
    simp only [Bool.and_eq_true, Nat.ble_eq] at hc
    have hg := (g32_eq kd fr to wh wn cd cu ve co ad au su er z f l hc.1 hc.2 k).trans hr
    exact fn_at tabOk F32_ok mixed fo32 bo32 (an32 (r32_0 (l.length + 2))) [.ro] 0 0 (ia32 (l.length + 2)) hl rfl ((e32 (l.length + 2) kd fr to wh wn cd cu ve co ad au su er z f l k).trans hg)
  · cases hr
end Go.Proofs.Ytcklhipdldpkhaa.Rx

/- What comitia/comitialaw16.known computes. Own work, printed by a program of the worker's own. -/
namespace Go.Proofs.Ytcklhipdldpkhaa.Rx
open Go
set_option linter.unusedVariables false
set_option maxRecDepth 100000
set_option maxHeartbeats 0
noncomputable def F31 : Fns := addF 37 s37' (addF 21 s21' (F0))
theorem F31_ok : FnsOk tau Try.prog F31 := ((F0_ok).add ok21' en21).add ok37' en37
def an31 : An := (.seq .leaf (.seq .leaf (.seq .leaf .leaf)))
noncomputable def g31 (f : Nat) (k : Res → Option Res) : Option Res := bif kOk (kb 0 []) && (kOk (kb 1 []) && kOk (kb 2 [])) then k (Res.mk (.sc (.bool (parE (PA.mk [.ro 5 false false (kb 0 []), .ro 5 false false (kb 1 []), .ro 5 false false (kb 2 [])] []) == 8))) [] []) else none
theorem e31 (f : Nat) (k : Res → Option Res) : evFn tau F31 Try.f31 (Try.f31.body.get!) an31 [.ro] 0 [] [] k = g31 f k := by kernel_rfl
theorem it31 (f : Nat) : items (Try.f31.body.get!) an31 = [] := by kernel_rfl
theorem ia31 (f : Nat) : ∀ q ∈ items (Try.f31.body.get!) an31, q.Ok tau Try.prog 0 := by
  rw [it31 f]; intro q hq; cases hq
theorem fo31 : Try.prog.funcs[31]? = some Try.f31 := by kernel_rfl
theorem bo31 : Try.f31.body = some (Try.f31.body.get!) := by kernel_rfl
theorem en31 : Enters Try.prog 31 := enters_of fo31 (by kernel_rfl) bo31
noncomputable def run31 : List PV → List Ent → (Res → Option Res) → Option Res
  | [], [], k => g31 0  k
  | _, _, _ => none
noncomputable def s31 : Sig := { own := [], run := run31 }
theorem ok31 : CallOk tau Try.prog 31 s31 := fn_ok tabOk F31_ok mixed fo31 bo31 an31 [.ro] 0 [] run31 (ia31 0) fun xs es k res hr => by
  unfold run31 at hr
  split at hr
  · exact ⟨rfl, 0, (e31 0  _).trans hr⟩
  · cases hr
end Go.Proofs.Ytcklhipdldpkhaa.Rx

-- FN law16.known
/- The chapter's example. Own work. -/
namespace Go.Proofs.Ytcklhipdldpkhaa.Rx
open Go
set_option linter.unusedVariables false
set_option maxRecDepth 100000
theorem runB_id : ∀ (n : Nat) {s : RS}, s.e ≠ 0 → runB n s = s
  | 0, _, _ => rfl
  | n + 1, s, h => by show runB n (stepS0 1 s) = s; rw [step_err h, runB_id n h]
theorem parE_nil (l : List PV) : parE ⟨l, []⟩ = 8 := by
  have h1 : stepS 1 ⟨[], 0⟩ = ⟨[], 8⟩ := by rw [stepS_eq]; rfl
  have he : (RS.mk [] 8).e ≠ 0 := by decide
  have h8 : ∀ n, stepS n ⟨[], 8⟩ = ⟨[], 8⟩ := fun n => by rw [stepS_eq, step_err he]
  have hf : ∀ n, fS (n + 1) ⟨[], 0⟩ = ⟨[], 8⟩ := by
    intro n
    induction n with
    | zero => rw [fS, h1]
    | succ n ih => rw [fS, ih, h8]
  have hc : cntS ⟨[], 0⟩ = 0 := by rw [cntS, hf 12, numS_eq]; rfl
  have hN : msgN ⟨[], 0⟩ = 0 := by unfold msgN; rw [hc]; rfl
  have hS : msgS ⟨[], 0⟩ = ⟨[], 8⟩ := by unfold msgS; rw [hc, hf 12, h8]; rfl
  have hE : msgE ⟨[], 0⟩ = ⟨[], 8⟩ := by rw [msgE_eq, hN, hS, hashS_eq]; exact runB_id 32 he
  rw [parE_eq]; unfold parE0; rw [hE]; rfl
noncomputable def run31' : List PV → List Ent → (Res → Option Res) → Option Res
  | [], [], k => k ⟨.sc (.bool true), [], []⟩
  | _, _, _ => none
noncomputable def s31' : Sig := { own := [], run := run31' }
theorem ok31' : CallOk tau Try.prog 31 s31' := ok31.of fun xs es k res hr => by
  change run31' xs es k = some res at hr
  unfold run31' at hr
  split at hr
  · show g31 0 _ = some res
    unfold g31
    have hk : ∀ i, kOk (kb i []) = true := fun i => kb_ok i rfl
    rw [bif_t (by rw [hk, hk, hk]; rfl), parE_nil]
    exact hr
  · cases hr
end Go.Proofs.Ytcklhipdldpkhaa.Rx

/- What comitia/comitiaref2.words computes. Own work, printed by a program of the worker's own. -/
namespace Go.Proofs.Ytcklhipdldpkhaa.Rx
open Go
set_option linter.unusedVariables false
set_option maxRecDepth 100000
set_option maxHeartbeats 0
noncomputable def F72 : Fns := F0
theorem F72_ok : FnsOk tau Try.prog F72 := F0_ok
def an72 : An := (.seq .leaf (.seq .leaf .leaf))
noncomputable def g72 (f : Nat) (k : Res → Option Res) : Option Res := k (Res.mk (.ar 118 [.sc (.int .u32 1116352408), .sc (.int .u32 1899447441), .sc (.int .u32 3049323471), .sc (.int .u32 3921009573), .sc (.int .u32 961987163), .sc (.int .u32 1508970993), .sc (.int .u32 2453635748), .sc (.int .u32 2870763221), .sc (.int .u32 3624381080), .sc (.int .u32 310598401), .sc (.int .u32 607225278), .sc (.int .u32 1426881987), .sc (.int .u32 1925078388), .sc (.int .u32 2162078206), .sc (.int .u32 2614888103), .sc (.int .u32 3248222580), .sc (.int .u32 3835390401), .sc (.int .u32 4022224774), .sc (.int .u32 264347078), .sc (.int .u32 604807628), .sc (.int .u32 770255983), .sc (.int .u32 1249150122), .sc (.int .u32 1555081692), .sc (.int .u32 1996064986), .sc (.int .u32 2554220882), .sc (.int .u32 2821834349), .sc (.int .u32 2952996808), .sc (.int .u32 3210313671), .sc (.int .u32 3336571891), .sc (.int .u32 3584528711), .sc (.int .u32 113926993), .sc (.int .u32 338241895), .sc (.int .u32 666307205), .sc (.int .u32 773529912), .sc (.int .u32 1294757372), .sc (.int .u32 1396182291), .sc (.int .u32 1695183700), .sc (.int .u32 1986661051), .sc (.int .u32 2177026350), .sc (.int .u32 2456956037), .sc (.int .u32 2730485921), .sc (.int .u32 2820302411), .sc (.int .u32 3259730800), .sc (.int .u32 3345764771), .sc (.int .u32 3516065817), .sc (.int .u32 3600352804), .sc (.int .u32 4094571909), .sc (.int .u32 275423344), .sc (.int .u32 430227734), .sc (.int .u32 506948616), .sc (.int .u32 659060556), .sc (.int .u32 883997877), .sc (.int .u32 958139571), .sc (.int .u32 1322822218), .sc (.int .u32 1537002063), .sc (.int .u32 1747873779), .sc (.int .u32 1955562222), .sc (.int .u32 2024104815), .sc (.int .u32 2227730452), .sc (.int .u32 2361852424), .sc (.int .u32 2428436474), .sc (.int .u32 2756734187), .sc (.int .u32 3204031479), .sc (.int .u32 3329325298)]) [] [])
theorem e72 (f : Nat) (k : Res → Option Res) : evFn tau F72 Try.f72 (Try.f72.body.get!) an72 [.ro] 0 [] [] k = g72 f k := by kernel_rfl
theorem it72 (f : Nat) : items (Try.f72.body.get!) an72 = [] := by kernel_rfl
theorem ia72 (f : Nat) : ∀ q ∈ items (Try.f72.body.get!) an72, q.Ok tau Try.prog 0 := by
  rw [it72 f]; intro q hq; cases hq
theorem fo72 : Try.prog.funcs[72]? = some Try.f72 := by kernel_rfl
theorem bo72 : Try.f72.body = some (Try.f72.body.get!) := by kernel_rfl
theorem en72 : Enters Try.prog 72 := enters_of fo72 (by kernel_rfl) bo72
noncomputable def run72 : List PV → List Ent → (Res → Option Res) → Option Res
  | [], [], k => g72 0  k
  | _, _, _ => none
noncomputable def s72 : Sig := { own := [], run := run72 }
theorem ok72 : CallOk tau Try.prog 72 s72 := fn_ok tabOk F72_ok mixed fo72 bo72 an72 [.ro] 0 [] run72 (ia72 0) fun xs es k res hr => by
  unfold run72 at hr
  split at hr
  · exact ⟨rfl, 0, (e72 0  _).trans hr⟩
  · cases hr
end Go.Proofs.Ytcklhipdldpkhaa.Rx
