/- What the functions of this law compute, and their plain laws. Conditions: none. -/
import Derived.KernelRfl
import Derived.Test.YtcklhipdldpkhaaWireSamesP2
/- What comitia/hmac.Mac computes. Own work, printed by a program of the worker's own. -/
namespace Go.Proofs.Ytcklhipdldpkhaa.Rx
open Go
set_option linter.unusedVariables false
set_option maxRecDepth 100000
set_option maxHeartbeats 0
noncomputable def F80 : Fns := addF 141 s141' (addF 140 s140' (addF 136 s136 (addF 27 s27' (F0))))
theorem F80_ok : FnsOk tau Try.prog F80 := ((((F0_ok).add ok27' en27).add ok136 en136).add ok140' en140).add ok141' en141
def an80 : An := (.seq .leaf (.seq (.seq .leaf (.cond (.seq .leaf .leaf) .leaf)) (.seq .leaf (.seq .leaf (.seq .leaf (.seq .leaf .leaf))))))
noncomputable def g80 (f : Nat) (key_z : Bool) (key_f : Bool) (key : List PV) (parts_z : Bool) (parts_f : Bool) (parts : List PV) (k : Res → Option Res) : Option Res := bif decide (zi key.length > 64) then bif allInt IntKind.u8 (flat [PV.ro 5 key_z key_f key]) && decide ((flat [PV.ro 5 key_z key_f key]).length ≤ 140737488355000) then bif parts_z then bif allInt IntKind.u8 (List.take 64 (List.take 32 (pu IntKind.u8 (sumP (ints (flat [PV.ro 5 key_z key_f key]))))) ++ List.drop (0 + min (List.take 32 (pu IntKind.u8 (sumP (ints (flat [PV.ro 5 key_z key_f key]))))).length 64) [PV.sc (.int .u8 0), PV.sc (.int .u8 0), PV.sc (.int .u8 0), PV.sc (.int .u8 0), PV.sc (.int .u8 0), PV.sc (.int .u8 0), PV.sc (.int .u8 0), PV.sc (.int .u8 0), PV.sc (.int .u8 0), PV.sc (.int .u8 0), PV.sc (.int .u8 0), PV.sc (.int .u8 0), PV.sc (.int .u8 0), PV.sc (.int .u8 0), PV.sc (.int .u8 0), PV.sc (.int .u8 0), PV.sc (.int .u8 0), PV.sc (.int .u8 0), PV.sc (.int .u8 0), PV.sc (.int .u8 0), PV.sc (.int .u8 0), PV.sc (.int .u8 0), PV.sc (.int .u8 0), PV.sc (.int .u8 0), PV.sc (.int .u8 0), PV.sc (.int .u8 0), PV.sc (.int .u8 0), PV.sc (.int .u8 0), PV.sc (.int .u8 0), PV.sc (.int .u8 0), PV.sc (.int .u8 0), PV.sc (.int .u8 0), PV.sc (.int .u8 0), PV.sc (.int .u8 0), PV.sc (.int .u8 0), PV.sc (.int .u8 0), PV.sc (.int .u8 0), PV.sc (.int .u8 0), PV.sc (.int .u8 0), PV.sc (.int .u8 0), PV.sc (.int .u8 0), PV.sc (.int .u8 0), PV.sc (.int .u8 0), PV.sc (.int .u8 0), PV.sc (.int .u8 0), PV.sc (.int .u8 0), PV.sc (.int .u8 0), PV.sc (.int .u8 0), PV.sc (.int .u8 0), PV.sc (.int .u8 0), PV.sc (.int .u8 0), PV.sc (.int .u8 0), PV.sc (.int .u8 0), PV.sc (.int .u8 0), PV.sc (.int .u8 0), PV.sc (.int .u8 0), PV.sc (.int .u8 0), PV.sc (.int .u8 0), PV.sc (.int .u8 0), PV.sc (.int .u8 0), PV.sc (.int .u8 0), PV.sc (.int .u8 0), PV.sc (.int .u8 0), PV.sc (.int .u8 0)]) && decide ((List.take 64 (List.take 32 (pu IntKind.u8 (sumP (ints (flat [PV.ro 5 key_z key_f key]))))) ++ List.drop (0 + min (List.take 32 (pu IntKind.u8 (sumP (ints (flat [PV.ro 5 key_z key_f key]))))).length 64) [PV.sc (.int .u8 0), PV.sc (.int .u8 0), PV.sc (.int .u8 0), PV.sc (.int .u8 0), PV.sc (.int .u8 0), PV.sc (.int .u8 0), PV.sc (.int .u8 0), PV.sc (.int .u8 0), PV.sc (.int .u8 0), PV.sc (.int .u8 0), PV.sc (.int .u8 0), PV.sc (.int .u8 0), PV.sc (.int .u8 0), PV.sc (.int .u8 0), PV.sc (.int .u8 0), PV.sc (.int .u8 0), PV.sc (.int .u8 0), PV.sc (.int .u8 0), PV.sc (.int .u8 0), PV.sc (.int .u8 0), PV.sc (.int .u8 0), PV.sc (.int .u8 0), PV.sc (.int .u8 0), PV.sc (.int .u8 0), PV.sc (.int .u8 0), PV.sc (.int .u8 0), PV.sc (.int .u8 0), PV.sc (.int .u8 0), PV.sc (.int .u8 0), PV.sc (.int .u8 0), PV.sc (.int .u8 0), PV.sc (.int .u8 0), PV.sc (.int .u8 0), PV.sc (.int .u8 0), PV.sc (.int .u8 0), PV.sc (.int .u8 0), PV.sc (.int .u8 0), PV.sc (.int .u8 0), PV.sc (.int .u8 0), PV.sc (.int .u8 0), PV.sc (.int .u8 0), PV.sc (.int .u8 0), PV.sc (.int .u8 0), PV.sc (.int .u8 0), PV.sc (.int .u8 0), PV.sc (.int .u8 0), PV.sc (.int .u8 0), PV.sc (.int .u8 0), PV.sc (.int .u8 0), PV.sc (.int .u8 0), PV.sc (.int .u8 0), PV.sc (.int .u8 0), PV.sc (.int .u8 0), PV.sc (.int .u8 0), PV.sc (.int .u8 0), PV.sc (.int .u8 0), PV.sc (.int .u8 0), PV.sc (.int .u8 0), PV.sc (.int .u8 0), PV.sc (.int .u8 0), PV.sc (.int .u8 0), PV.sc (.int .u8 0), PV.sc (.int .u8 0), PV.sc (.int .u8 0)]).length = 64) && true then bif allInt IntKind.u8 (flat [PV.ro 5 false false (pu IntKind.u8 (xorB (ints (List.take 64 (List.take 32 (pu IntKind.u8 (sumP (ints (flat [PV.ro 5 key_z key_f key]))))) ++ List.drop (0 + min (List.take 32 (pu IntKind.u8 (sumP (ints (flat [PV.ro 5 key_z key_f key]))))).length 64) [PV.sc (.int .u8 0), PV.sc (.int .u8 0), PV.sc (.int .u8 0), PV.sc (.int .u8 0), PV.sc (.int .u8 0), PV.sc (.int .u8 0), PV.sc (.int .u8 0), PV.sc (.int .u8 0), PV.sc (.int .u8 0), PV.sc (.int .u8 0), PV.sc (.int .u8 0), PV.sc (.int .u8 0), PV.sc (.int .u8 0), PV.sc (.int .u8 0), PV.sc (.int .u8 0), PV.sc (.int .u8 0), PV.sc (.int .u8 0), PV.sc (.int .u8 0), PV.sc (.int .u8 0), PV.sc (.int .u8 0), PV.sc (.int .u8 0), PV.sc (.int .u8 0), PV.sc (.int .u8 0), PV.sc (.int .u8 0), PV.sc (.int .u8 0), PV.sc (.int .u8 0), PV.sc (.int .u8 0), PV.sc (.int .u8 0), PV.sc (.int .u8 0), PV.sc (.int .u8 0), PV.sc (.int .u8 0), PV.sc (.int .u8 0), PV.sc (.int .u8 0), PV.sc (.int .u8 0), PV.sc (.int .u8 0), PV.sc (.int .u8 0), PV.sc (.int .u8 0), PV.sc (.int .u8 0), PV.sc (.int .u8 0), PV.sc (.int .u8 0), PV.sc (.int .u8 0), PV.sc (.int .u8 0), PV.sc (.int .u8 0), PV.sc (.int .u8 0), PV.sc (.int .u8 0), PV.sc (.int .u8 0), PV.sc (.int .u8 0), PV.sc (.int .u8 0), PV.sc (.int .u8 0), PV.sc (.int .u8 0), PV.sc (.int .u8 0), PV.sc (.int .u8 0), PV.sc (.int .u8 0), PV.sc (.int .u8 0), PV.sc (.int .u8 0), PV.sc (.int .u8 0), PV.sc (.int .u8 0), PV.sc (.int .u8 0), PV.sc (.int .u8 0), PV.sc (.int .u8 0), PV.sc (.int .u8 0), PV.sc (.int .u8 0), PV.sc (.int .u8 0), PV.sc (.int .u8 0)])) 54))]) && decide ((flat [PV.ro 5 false false (pu IntKind.u8 (xorB (ints (List.take 64 (List.take 32 (pu IntKind.u8 (sumP (ints (flat [PV.ro 5 key_z key_f key]))))) ++ List.drop (0 + min (List.take 32 (pu IntKind.u8 (sumP (ints (flat [PV.ro 5 key_z key_f key]))))).length 64) [PV.sc (.int .u8 0), PV.sc (.int .u8 0), PV.sc (.int .u8 0), PV.sc (.int .u8 0), PV.sc (.int .u8 0), PV.sc (.int .u8 0), PV.sc (.int .u8 0), PV.sc (.int .u8 0), PV.sc (.int .u8 0), PV.sc (.int .u8 0), PV.sc (.int .u8 0), PV.sc (.int .u8 0), PV.sc (.int .u8 0), PV.sc (.int .u8 0), PV.sc (.int .u8 0), PV.sc (.int .u8 0), PV.sc (.int .u8 0), PV.sc (.int .u8 0), PV.sc (.int .u8 0), PV.sc (.int .u8 0), PV.sc (.int .u8 0), PV.sc (.int .u8 0), PV.sc (.int .u8 0), PV.sc (.int .u8 0), PV.sc (.int .u8 0), PV.sc (.int .u8 0), PV.sc (.int .u8 0), PV.sc (.int .u8 0), PV.sc (.int .u8 0), PV.sc (.int .u8 0), PV.sc (.int .u8 0), PV.sc (.int .u8 0), PV.sc (.int .u8 0), PV.sc (.int .u8 0), PV.sc (.int .u8 0), PV.sc (.int .u8 0), PV.sc (.int .u8 0), PV.sc (.int .u8 0), PV.sc (.int .u8 0), PV.sc (.int .u8 0), PV.sc (.int .u8 0), PV.sc (.int .u8 0), PV.sc (.int .u8 0), PV.sc (.int .u8 0), PV.sc (.int .u8 0), PV.sc (.int .u8 0), PV.sc (.int .u8 0), PV.sc (.int .u8 0), PV.sc (.int .u8 0), PV.sc (.int .u8 0), PV.sc (.int .u8 0), PV.sc (.int .u8 0), PV.sc (.int .u8 0), PV.sc (.int .u8 0), PV.sc (.int .u8 0), PV.sc (.int .u8 0), PV.sc (.int .u8 0), PV.sc (.int .u8 0), PV.sc (.int .u8 0), PV.sc (.int .u8 0), PV.sc (.int .u8 0), PV.sc (.int .u8 0), PV.sc (.int .u8 0), PV.sc (.int .u8 0)])) 54))]).length ≤ 140737488355000) then bif allInt IntKind.u8 (List.take 64 (List.take 32 (pu IntKind.u8 (sumP (ints (flat [PV.ro 5 key_z key_f key]))))) ++ List.drop (0 + min (List.take 32 (pu IntKind.u8 (sumP (ints (flat [PV.ro 5 key_z key_f key]))))).length 64) [PV.sc (.int .u8 0), PV.sc (.int .u8 0), PV.sc (.int .u8 0), PV.sc (.int .u8 0), PV.sc (.int .u8 0), PV.sc (.int .u8 0), PV.sc (.int .u8 0), PV.sc (.int .u8 0), PV.sc (.int .u8 0), PV.sc (.int .u8 0), PV.sc (.int .u8 0), PV.sc (.int .u8 0), PV.sc (.int .u8 0), PV.sc (.int .u8 0), PV.sc (.int .u8 0), PV.sc (.int .u8 0), PV.sc (.int .u8 0), PV.sc (.int .u8 0), PV.sc (.int .u8 0), PV.sc (.int .u8 0), PV.sc (.int .u8 0), PV.sc (.int .u8 0), PV.sc (.int .u8 0), PV.sc (.int .u8 0), PV.sc (.int .u8 0), PV.sc (.int .u8 0), PV.sc (.int .u8 0), PV.sc (.int .u8 0), PV.sc (.int .u8 0), PV.sc (.int .u8 0), PV.sc (.int .u8 0), PV.sc (.int .u8 0), PV.sc (.int .u8 0), PV.sc (.int .u8 0), PV.sc (.int .u8 0), PV.sc (.int .u8 0), PV.sc (.int .u8 0), PV.sc (.int .u8 0), PV.sc (.int .u8 0), PV.sc (.int .u8 0), PV.sc (.int .u8 0), PV.sc (.int .u8 0), PV.sc (.int .u8 0), PV.sc (.int .u8 0), PV.sc (.int .u8 0), PV.sc (.int .u8 0), PV.sc (.int .u8 0), PV.sc (.int .u8 0), PV.sc (.int .u8 0), PV.sc (.int .u8 0), PV.sc (.int .u8 0), PV.sc (.int .u8 0), PV.sc (.int .u8 0), PV.sc (.int .u8 0), PV.sc (.int .u8 0), PV.sc (.int .u8 0), PV.sc (.int .u8 0), PV.sc (.int .u8 0), PV.sc (.int .u8 0), PV.sc (.int .u8 0), PV.sc (.int .u8 0), PV.sc (.int .u8 0), PV.sc (.int .u8 0), PV.sc (.int .u8 0)]) && decide ((List.take 64 (List.take 32 (pu IntKind.u8 (sumP (ints (flat [PV.ro 5 key_z key_f key]))))) ++ List.drop (0 + min (List.take 32 (pu IntKind.u8 (sumP (ints (flat [PV.ro 5 key_z key_f key]))))).length 64) [PV.sc (.int .u8 0), PV.sc (.int .u8 0), PV.sc (.int .u8 0), PV.sc (.int .u8 0), PV.sc (.int .u8 0), PV.sc (.int .u8 0), PV.sc (.int .u8 0), PV.sc (.int .u8 0), PV.sc (.int .u8 0), PV.sc (.int .u8 0), PV.sc (.int .u8 0), PV.sc (.int .u8 0), PV.sc (.int .u8 0), PV.sc (.int .u8 0), PV.sc (.int .u8 0), PV.sc (.int .u8 0), PV.sc (.int .u8 0), PV.sc (.int .u8 0), PV.sc (.int .u8 0), PV.sc (.int .u8 0), PV.sc (.int .u8 0), PV.sc (.int .u8 0), PV.sc (.int .u8 0), PV.sc (.int .u8 0), PV.sc (.int .u8 0), PV.sc (.int .u8 0), PV.sc (.int .u8 0), PV.sc (.int .u8 0), PV.sc (.int .u8 0), PV.sc (.int .u8 0), PV.sc (.int .u8 0), PV.sc (.int .u8 0), PV.sc (.int .u8 0), PV.sc (.int .u8 0), PV.sc (.int .u8 0), PV.sc (.int .u8 0), PV.sc (.int .u8 0), PV.sc (.int .u8 0), PV.sc (.int .u8 0), PV.sc (.int .u8 0), PV.sc (.int .u8 0), PV.sc (.int .u8 0), PV.sc (.int .u8 0), PV.sc (.int .u8 0), PV.sc (.int .u8 0), PV.sc (.int .u8 0), PV.sc (.int .u8 0), PV.sc (.int .u8 0), PV.sc (.int .u8 0), PV.sc (.int .u8 0), PV.sc (.int .u8 0), PV.sc (.int .u8 0), PV.sc (.int .u8 0), PV.sc (.int .u8 0), PV.sc (.int .u8 0), PV.sc (.int .u8 0), PV.sc (.int .u8 0), PV.sc (.int .u8 0), PV.sc (.int .u8 0), PV.sc (.int .u8 0), PV.sc (.int .u8 0), PV.sc (.int .u8 0), PV.sc (.int .u8 0), PV.sc (.int .u8 0)]).length = 64) && true then bif allInt IntKind.u8 (flat [PV.ro 5 false false (pu IntKind.u8 (xorB (ints (List.take 64 (List.take 32 (pu IntKind.u8 (sumP (ints (flat [PV.ro 5 key_z key_f key]))))) ++ List.drop (0 + min (List.take 32 (pu IntKind.u8 (sumP (ints (flat [PV.ro 5 key_z key_f key]))))).length 64) [PV.sc (.int .u8 0), PV.sc (.int .u8 0), PV.sc (.int .u8 0), PV.sc (.int .u8 0), PV.sc (.int .u8 0), PV.sc (.int .u8 0), PV.sc (.int .u8 0), PV.sc (.int .u8 0), PV.sc (.int .u8 0), PV.sc (.int .u8 0), PV.sc (.int .u8 0), PV.sc (.int .u8 0), PV.sc (.int .u8 0), PV.sc (.int .u8 0), PV.sc (.int .u8 0), PV.sc (.int .u8 0), PV.sc (.int .u8 0), PV.sc (.int .u8 0), PV.sc (.int .u8 0), PV.sc (.int .u8 0), PV.sc (.int .u8 0), PV.sc (.int .u8 0), PV.sc (.int .u8 0), PV.sc (.int .u8 0), PV.sc (.int .u8 0), PV.sc (.int .u8 0), PV.sc (.int .u8 0), PV.sc (.int .u8 0), PV.sc (.int .u8 0), PV.sc (.int .u8 0), PV.sc (.int .u8 0), PV.sc (.int .u8 0), PV.sc (.int .u8 0), PV.sc (.int .u8 0), PV.sc (.int .u8 0), PV.sc (.int .u8 0), PV.sc (.int .u8 0), PV.sc (.int .u8 0), PV.sc (.int .u8 0), PV.sc (.int .u8 0), PV.sc (.int .u8 0), PV.sc (.int .u8 0), PV.sc (.int .u8 0), PV.sc (.int .u8 0), PV.sc (.int .u8 0), PV.sc (.int .u8 0), PV.sc (.int .u8 0), PV.sc (.int .u8 0), PV.sc (.int .u8 0), PV.sc (.int .u8 0), PV.sc (.int .u8 0), PV.sc (.int .u8 0), PV.sc (.int .u8 0), PV.sc (.int .u8 0), PV.sc (.int .u8 0), PV.sc (.int .u8 0), PV.sc (.int .u8 0), PV.sc (.int .u8 0), PV.sc (.int .u8 0), PV.sc (.int .u8 0), PV.sc (.int .u8 0), PV.sc (.int .u8 0), PV.sc (.int .u8 0), PV.sc (.int .u8 0)])) 92)), PV.ro 5 false false (List.take 32 (pu IntKind.u8 (sumP (ints (flat [PV.ro 5 false false (pu IntKind.u8 (xorB (ints (List.take 64 (List.take 32 (pu IntKind.u8 (sumP (ints (flat [PV.ro 5 key_z key_f key]))))) ++ List.drop (0 + min (List.take 32 (pu IntKind.u8 (sumP (ints (flat [PV.ro 5 key_z key_f key]))))).length 64) [PV.sc (.int .u8 0), PV.sc (.int .u8 0), PV.sc (.int .u8 0), PV.sc (.int .u8 0), PV.sc (.int .u8 0), PV.sc (.int .u8 0), PV.sc (.int .u8 0), PV.sc (.int .u8 0), PV.sc (.int .u8 0), PV.sc (.int .u8 0), PV.sc (.int .u8 0), PV.sc (.int .u8 0), PV.sc (.int .u8 0), PV.sc (.int .u8 0), PV.sc (.int .u8 0), PV.sc (.int .u8 0), PV.sc (.int .u8 0), PV.sc (.int .u8 0), PV.sc (.int .u8 0), PV.sc (.int .u8 0), PV.sc (.int .u8 0), PV.sc (.int .u8 0), PV.sc (.int .u8 0), PV.sc (.int .u8 0), PV.sc (.int .u8 0), PV.sc (.int .u8 0), PV.sc (.int .u8 0), PV.sc (.int .u8 0), PV.sc (.int .u8 0), PV.sc (.int .u8 0), PV.sc (.int .u8 0), PV.sc (.int .u8 0), PV.sc (.int .u8 0), PV.sc (.int .u8 0), PV.sc (.int .u8 0), PV.sc (.int .u8 0), PV.sc (.int .u8 0), PV.sc (.int .u8 0), PV.sc (.int .u8 0), PV.sc (.int .u8 0), PV.sc (.int .u8 0), PV.sc (.int .u8 0), PV.sc (.int .u8 0), PV.sc (.int .u8 0), PV.sc (.int .u8 0), PV.sc (.int .u8 0), PV.sc (.int .u8 0), PV.sc (.int .u8 0), PV.sc (.int .u8 0), PV.sc (.int .u8 0), PV.sc (.int .u8 0), PV.sc (.int .u8 0), PV.sc (.int .u8 0), PV.sc (.int .u8 0), PV.sc (.int .u8 0), PV.sc (.int .u8 0), PV.sc (.int .u8 0), PV.sc (.int .u8 0), PV.sc (.int .u8 0), PV.sc (.int .u8 0), PV.sc (.int .u8 0), PV.sc (.int .u8 0), PV.sc (.int .u8 0), PV.sc (.int .u8 0)])) 54))])))))]) && decide ((flat [PV.ro 5 false false (pu IntKind.u8 (xorB (ints (List.take 64 (List.take 32 (pu IntKind.u8 (sumP (ints (flat [PV.ro 5 key_z key_f key]))))) ++ List.drop (0 + min (List.take 32 (pu IntKind.u8 (sumP (ints (flat [PV.ro 5 key_z key_f key]))))).length 64) [PV.sc (.int .u8 0), PV.sc (.int .u8 0), PV.sc (.int .u8 0), PV.sc (.int .u8 0), PV.sc (.int .u8 0), PV.sc (.int .u8 0), PV.sc (.int .u8 0), PV.sc (.int .u8 0), PV.sc (.int .u8 0), PV.sc (.int .u8 0), PV.sc (.int .u8 0), PV.sc (.int .u8 0), PV.sc (.int .u8 0), PV.sc (.int .u8 0), PV.sc (.int .u8 0), PV.sc (.int .u8 0), PV.sc (.int .u8 0), PV.sc (.int .u8 0), PV.sc (.int .u8 0), PV.sc (.int .u8 0), PV.sc (.int .u8 0), PV.sc (.int .u8 0), PV.sc (.int .u8 0), PV.sc (.int .u8 0), PV.sc (.int .u8 0), PV.sc (.int .u8 0), PV.sc (.int .u8 0), PV.sc (.int .u8 0), PV.sc (.int .u8 0), PV.sc (.int .u8 0), PV.sc (.int .u8 0), PV.sc (.int .u8 0), PV.sc (.int .u8 0), PV.sc (.int .u8 0), PV.sc (.int .u8 0), PV.sc (.int .u8 0), PV.sc (.int .u8 0), PV.sc (.int .u8 0), PV.sc (.int .u8 0), PV.sc (.int .u8 0), PV.sc (.int .u8 0), PV.sc (.int .u8 0), PV.sc (.int .u8 0), PV.sc (.int .u8 0), PV.sc (.int .u8 0), PV.sc (.int .u8 0), PV.sc (.int .u8 0), PV.sc (.int .u8 0), PV.sc (.int .u8 0), PV.sc (.int .u8 0), PV.sc (.int .u8 0), PV.sc (.int .u8 0), PV.sc (.int .u8 0), PV.sc (.int .u8 0), PV.sc (.int .u8 0), PV.sc (.int .u8 0), PV.sc (.int .u8 0), PV.sc (.int .u8 0), PV.sc (.int .u8 0), PV.sc (.int .u8 0), PV.sc (.int .u8 0), PV.sc (.int .u8 0), PV.sc (.int .u8 0), PV.sc (.int .u8 0)])) 92)), PV.ro 5 false false (List.take 32 (pu IntKind.u8 (sumP (ints (flat [PV.ro 5 false false (pu IntKind.u8 (xorB (ints (List.take 64 (List.take 32 (pu IntKind.u8 (sumP (ints (flat [PV.ro 5 key_z key_f key]))))) ++ List.drop (0 + min (List.take 32 (pu IntKind.u8 (sumP (ints (flat [PV.ro 5 key_z key_f key]))))).length 64) [PV.sc (.int .u8 0), PV.sc (.int .u8 0), PV.sc (.int .u8 0), PV.sc (.int .u8 0), PV.sc (.int .u8 0), PV.sc (.int .u8 0), PV.sc (.int .u8 0), PV.sc (.int .u8 0), PV.sc (.int .u8 0), PV.sc (.int .u8 0), PV.sc (.int .u8 0), PV.sc (.int .u8 0), PV.sc (.int .u8 0), PV.sc (.int .u8 0), PV.sc (.int .u8 0), PV.sc (.int .u8 0), PV.sc (.int .u8 0), PV.sc (.int .u8 0), PV.sc (.int .u8 0), PV.sc (.int .u8 0), PV.sc (.int .u8 0), PV.sc (.int .u8 0), PV.sc (.int .u8 0), PV.sc (.int .u8 0), PV.sc (.int .u8 0), PV.sc (.int .u8 0), PV.sc (.int .u8 0), PV.sc (.int .u8 0), PV.sc (.int .u8 0), PV.sc (.int .u8 0), PV.sc (.int .u8 0), PV.sc (.int .u8 0), PV.sc (.int .u8 0), PV.sc (.int .u8 0), PV.sc (.int .u8 0), PV.sc (.int .u8 0), PV.sc (.int .u8 0), PV.sc (.int .u8 0), PV.sc (.int .u8 0), PV.sc (.int .u8 0), PV.sc (.int .u8 0), PV.sc (.int .u8 0), PV.sc (.int .u8 0), PV.sc (.int .u8 0), PV.sc (.int .u8 0), PV.sc (.int .u8 0), PV.sc (.int .u8 0), PV.sc (.int .u8 0), PV.sc (.int .u8 0), PV.sc (.int .u8 0), PV.sc (.int .u8 0), PV.sc (.int .u8 0), PV.sc (.int .u8 0), PV.sc (.int .u8 0), PV.sc (.int .u8 0), PV.sc (.int .u8 0), PV.sc (.int .u8 0), PV.sc (.int .u8 0), PV.sc (.int .u8 0), PV.sc (.int .u8 0), PV.sc (.int .u8 0), PV.sc (.int .u8 0), PV.sc (.int .u8 0), PV.sc (.int .u8 0)])) 54))])))))]).length ≤ 140737488355000) then k (Res.mk (PV.ar 37 (pu IntKind.u8 (sumP (ints (flat [PV.ro 5 false false (pu IntKind.u8 (xorB (ints (List.take 64 (List.take 32 (pu IntKind.u8 (sumP (ints (flat [PV.ro 5 key_z key_f key]))))) ++ List.drop (0 + min (List.take 32 (pu IntKind.u8 (sumP (ints (flat [PV.ro 5 key_z key_f key]))))).length 64) [PV.sc (.int .u8 0), PV.sc (.int .u8 0), PV.sc (.int .u8 0), PV.sc (.int .u8 0), PV.sc (.int .u8 0), PV.sc (.int .u8 0), PV.sc (.int .u8 0), PV.sc (.int .u8 0), PV.sc (.int .u8 0), PV.sc (.int .u8 0), PV.sc (.int .u8 0), PV.sc (.int .u8 0), PV.sc (.int .u8 0), PV.sc (.int .u8 0), PV.sc (.int .u8 0), PV.sc (.int .u8 0), PV.sc (.int .u8 0), PV.sc (.int .u8 0), PV.sc (.int .u8 0), PV.sc (.int .u8 0), PV.sc (.int .u8 0), PV.sc (.int .u8 0), PV.sc (.int .u8 0), PV.sc (.int .u8 0), PV.sc (.int .u8 0), PV.sc (.int .u8 0), PV.sc (.int .u8 0), PV.sc (.int .u8 0), PV.sc (.int .u8 0), PV.sc (.int .u8 0), PV.sc (.int .u8 0), PV.sc (.int .u8 0), PV.sc (.int .u8 0), PV.sc (.int .u8 0), PV.sc (.int .u8 0), PV.sc (.int .u8 0), PV.sc (.int .u8 0), PV.sc (.int .u8 0), PV.sc (.int .u8 0), PV.sc (.int .u8 0), PV.sc (.int .u8 0), PV.sc (.int .u8 0), PV.sc (.int .u8 0), PV.sc (.int .u8 0), PV.sc (.int .u8 0), PV.sc (.int .u8 0), PV.sc (.int .u8 0), PV.sc (.int .u8 0), PV.sc (.int .u8 0), PV.sc (.int .u8 0), PV.sc (.int .u8 0), PV.sc (.int .u8 0), PV.sc (.int .u8 0), PV.sc (.int .u8 0), PV.sc (.int .u8 0), PV.sc (.int .u8 0), PV.sc (.int .u8 0), PV.sc (.int .u8 0), PV.sc (.int .u8 0), PV.sc (.int .u8 0), PV.sc (.int .u8 0), PV.sc (.int .u8 0), PV.sc (.int .u8 0), PV.sc (.int .u8 0)])) 92)), PV.ro 5 false false (List.take 32 (pu IntKind.u8 (sumP (ints (flat [PV.ro 5 false false (pu IntKind.u8 (xorB (ints (List.take 64 (List.take 32 (pu IntKind.u8 (sumP (ints (flat [PV.ro 5 key_z key_f key]))))) ++ List.drop (0 + min (List.take 32 (pu IntKind.u8 (sumP (ints (flat [PV.ro 5 key_z key_f key]))))).length 64) [PV.sc (.int .u8 0), PV.sc (.int .u8 0), PV.sc (.int .u8 0), PV.sc (.int .u8 0), PV.sc (.int .u8 0), PV.sc (.int .u8 0), PV.sc (.int .u8 0), PV.sc (.int .u8 0), PV.sc (.int .u8 0), PV.sc (.int .u8 0), PV.sc (.int .u8 0), PV.sc (.int .u8 0), PV.sc (.int .u8 0), PV.sc (.int .u8 0), PV.sc (.int .u8 0), PV.sc (.int .u8 0), PV.sc (.int .u8 0), PV.sc (.int .u8 0), PV.sc (.int .u8 0), PV.sc (.int .u8 0), PV.sc (.int .u8 0), PV.sc (.int .u8 0), PV.sc (.int .u8 0), PV.sc (.int .u8 0), PV.sc (.int .u8 0), PV.sc (.int .u8 0), PV.sc (.int .u8 0), PV.sc (.int .u8 0), PV.sc (.int .u8 0), PV.sc (.int .u8 0), PV.sc (.int .u8 0), PV.sc (.int .u8 0), PV.sc (.int .u8 0), PV.sc (.int .u8 0), PV.sc (.int .u8 0), PV.sc (.int .u8 0), PV.sc (.int .u8 0), PV.sc (.int .u8 0), PV.sc (.int .u8 0), PV.sc (.int .u8 0), PV.sc (.int .u8 0), PV.sc (.int .u8 0), PV.sc (.int .u8 0), PV.sc (.int .u8 0), PV.sc (.int .u8 0), PV.sc (.int .u8 0), PV.sc (.int .u8 0), PV.sc (.int .u8 0), PV.sc (.int .u8 0), PV.sc (.int .u8 0), PV.sc (.int .u8 0), PV.sc (.int .u8 0), PV.sc (.int .u8 0), PV.sc (.int .u8 0), PV.sc (.int .u8 0), PV.sc (.int .u8 0), PV.sc (.int .u8 0), PV.sc (.int .u8 0), PV.sc (.int .u8 0), PV.sc (.int .u8 0), PV.sc (.int .u8 0), PV.sc (.int .u8 0), PV.sc (.int .u8 0), PV.sc (.int .u8 0)])) 54))])))))]))))) [] []) else none else none else none else none else bif roomy (0 + parts.length) 24 && true then bif allInt IntKind.u8 (List.take 64 (List.take 32 (pu IntKind.u8 (sumP (ints (flat [PV.ro 5 key_z key_f key]))))) ++ List.drop (0 + min (List.take 32 (pu IntKind.u8 (sumP (ints (flat [PV.ro 5 key_z key_f key]))))).length 64) [PV.sc (.int .u8 0), PV.sc (.int .u8 0), PV.sc (.int .u8 0), PV.sc (.int .u8 0), PV.sc (.int .u8 0), PV.sc (.int .u8 0), PV.sc (.int .u8 0), PV.sc (.int .u8 0), PV.sc (.int .u8 0), PV.sc (.int .u8 0), PV.sc (.int .u8 0), PV.sc (.int .u8 0), PV.sc (.int .u8 0), PV.sc (.int .u8 0), PV.sc (.int .u8 0), PV.sc (.int .u8 0), PV.sc (.int .u8 0), PV.sc (.int .u8 0), PV.sc (.int .u8 0), PV.sc (.int .u8 0), PV.sc (.int .u8 0), PV.sc (.int .u8 0), PV.sc (.int .u8 0), PV.sc (.int .u8 0), PV.sc (.int .u8 0), PV.sc (.int .u8 0), PV.sc (.int .u8 0), PV.sc (.int .u8 0), PV.sc (.int .u8 0), PV.sc (.int .u8 0), PV.sc (.int .u8 0), PV.sc (.int .u8 0), PV.sc (.int .u8 0), PV.sc (.int .u8 0), PV.sc (.int .u8 0), PV.sc (.int .u8 0), PV.sc (.int .u8 0), PV.sc (.int .u8 0), PV.sc (.int .u8 0), PV.sc (.int .u8 0), PV.sc (.int .u8 0), PV.sc (.int .u8 0), PV.sc (.int .u8 0), PV.sc (.int .u8 0), PV.sc (.int .u8 0), PV.sc (.int .u8 0), PV.sc (.int .u8 0), PV.sc (.int .u8 0), PV.sc (.int .u8 0), PV.sc (.int .u8 0), PV.sc (.int .u8 0), PV.sc (.int .u8 0), PV.sc (.int .u8 0), PV.sc (.int .u8 0), PV.sc (.int .u8 0), PV.sc (.int .u8 0), PV.sc (.int .u8 0), PV.sc (.int .u8 0), PV.sc (.int .u8 0), PV.sc (.int .u8 0), PV.sc (.int .u8 0), PV.sc (.int .u8 0), PV.sc (.int .u8 0), PV.sc (.int .u8 0)]) && decide ((List.take 64 (List.take 32 (pu IntKind.u8 (sumP (ints (flat [PV.ro 5 key_z key_f key]))))) ++ List.drop (0 + min (List.take 32 (pu IntKind.u8 (sumP (ints (flat [PV.ro 5 key_z key_f key]))))).length 64) [PV.sc (.int .u8 0), PV.sc (.int .u8 0), PV.sc (.int .u8 0), PV.sc (.int .u8 0), PV.sc (.int .u8 0), PV.sc (.int .u8 0), PV.sc (.int .u8 0), PV.sc (.int .u8 0), PV.sc (.int .u8 0), PV.sc (.int .u8 0), PV.sc (.int .u8 0), PV.sc (.int .u8 0), PV.sc (.int .u8 0), PV.sc (.int .u8 0), PV.sc (.int .u8 0), PV.sc (.int .u8 0), PV.sc (.int .u8 0), PV.sc (.int .u8 0), PV.sc (.int .u8 0), PV.sc (.int .u8 0), PV.sc (.int .u8 0), PV.sc (.int .u8 0), PV.sc (.int .u8 0), PV.sc (.int .u8 0), PV.sc (.int .u8 0), PV.sc (.int .u8 0), PV.sc (.int .u8 0), PV.sc (.int .u8 0), PV.sc (.int .u8 0), PV.sc (.int .u8 0), PV.sc (.int .u8 0), PV.sc (.int .u8 0), PV.sc (.int .u8 0), PV.sc (.int .u8 0), PV.sc (.int .u8 0), PV.sc (.int .u8 0), PV.sc (.int .u8 0), PV.sc (.int .u8 0), PV.sc (.int .u8 0), PV.sc (.int .u8 0), PV.sc (.int .u8 0), PV.sc (.int .u8 0), PV.sc (.int .u8 0), PV.sc (.int .u8 0), PV.sc (.int .u8 0), PV.sc (.int .u8 0), PV.sc (.int .u8 0), PV.sc (.int .u8 0), PV.sc (.int .u8 0), PV.sc (.int .u8 0), PV.sc (.int .u8 0), PV.sc (.int .u8 0), PV.sc (.int .u8 0), PV.sc (.int .u8 0), PV.sc (.int .u8 0), PV.sc (.int .u8 0), PV.sc (.int .u8 0), PV.sc (.int .u8 0), PV.sc (.int .u8 0), PV.sc (.int .u8 0), PV.sc (.int .u8 0), PV.sc (.int .u8 0), PV.sc (.int .u8 0), PV.sc (.int .u8 0)]).length = 64) && true then bif decide (0 + parts.length = parts.length) && decide (parts.length ≤ 1000000000) then bif parts.all (PV.isRo 5) && decide ((PV.ro 5 false false (pu IntKind.u8 (xorB (ints (List.take 64 (List.take 32 (pu IntKind.u8 (sumP (ints (flat [PV.ro 5 key_z key_f key]))))) ++ List.drop (0 + min (List.take 32 (pu IntKind.u8 (sumP (ints (flat [PV.ro 5 key_z key_f key]))))).length 64) [PV.sc (.int .u8 0), PV.sc (.int .u8 0), PV.sc (.int .u8 0), PV.sc (.int .u8 0), PV.sc (.int .u8 0), PV.sc (.int .u8 0), PV.sc (.int .u8 0), PV.sc (.int .u8 0), PV.sc (.int .u8 0), PV.sc (.int .u8 0), PV.sc (.int .u8 0), PV.sc (.int .u8 0), PV.sc (.int .u8 0), PV.sc (.int .u8 0), PV.sc (.int .u8 0), PV.sc (.int .u8 0), PV.sc (.int .u8 0), PV.sc (.int .u8 0), PV.sc (.int .u8 0), PV.sc (.int .u8 0), PV.sc (.int .u8 0), PV.sc (.int .u8 0), PV.sc (.int .u8 0), PV.sc (.int .u8 0), PV.sc (.int .u8 0), PV.sc (.int .u8 0), PV.sc (.int .u8 0), PV.sc (.int .u8 0), PV.sc (.int .u8 0), PV.sc (.int .u8 0), PV.sc (.int .u8 0), PV.sc (.int .u8 0), PV.sc (.int .u8 0), PV.sc (.int .u8 0), PV.sc (.int .u8 0), PV.sc (.int .u8 0), PV.sc (.int .u8 0), PV.sc (.int .u8 0), PV.sc (.int .u8 0), PV.sc (.int .u8 0), PV.sc (.int .u8 0), PV.sc (.int .u8 0), PV.sc (.int .u8 0), PV.sc (.int .u8 0), PV.sc (.int .u8 0), PV.sc (.int .u8 0), PV.sc (.int .u8 0), PV.sc (.int .u8 0), PV.sc (.int .u8 0), PV.sc (.int .u8 0), PV.sc (.int .u8 0), PV.sc (.int .u8 0), PV.sc (.int .u8 0), PV.sc (.int .u8 0), PV.sc (.int .u8 0), PV.sc (.int .u8 0), PV.sc (.int .u8 0), PV.sc (.int .u8 0), PV.sc (.int .u8 0), PV.sc (.int .u8 0), PV.sc (.int .u8 0), PV.sc (.int .u8 0), PV.sc (.int .u8 0), PV.sc (.int .u8 0)])) 54)) :: parts).length ≤ 140737488355328) && (allInt IntKind.u8 (flat (PV.ro 5 false false (pu IntKind.u8 (xorB (ints (List.take 64 (List.take 32 (pu IntKind.u8 (sumP (ints (flat [PV.ro 5 key_z key_f key]))))) ++ List.drop (0 + min (List.take 32 (pu IntKind.u8 (sumP (ints (flat [PV.ro 5 key_z key_f key]))))).length 64) [PV.sc (.int .u8 0), PV.sc (.int .u8 0), PV.sc (.int .u8 0), PV.sc (.int .u8 0), PV.sc (.int .u8 0), PV.sc (.int .u8 0), PV.sc (.int .u8 0), PV.sc (.int .u8 0), PV.sc (.int .u8 0), PV.sc (.int .u8 0), PV.sc (.int .u8 0), PV.sc (.int .u8 0), PV.sc (.int .u8 0), PV.sc (.int .u8 0), PV.sc (.int .u8 0), PV.sc (.int .u8 0), PV.sc (.int .u8 0), PV.sc (.int .u8 0), PV.sc (.int .u8 0), PV.sc (.int .u8 0), PV.sc (.int .u8 0), PV.sc (.int .u8 0), PV.sc (.int .u8 0), PV.sc (.int .u8 0), PV.sc (.int .u8 0), PV.sc (.int .u8 0), PV.sc (.int .u8 0), PV.sc (.int .u8 0), PV.sc (.int .u8 0), PV.sc (.int .u8 0), PV.sc (.int .u8 0), PV.sc (.int .u8 0), PV.sc (.int .u8 0), PV.sc (.int .u8 0), PV.sc (.int .u8 0), PV.sc (.int .u8 0), PV.sc (.int .u8 0), PV.sc (.int .u8 0), PV.sc (.int .u8 0), PV.sc (.int .u8 0), PV.sc (.int .u8 0), PV.sc (.int .u8 0), PV.sc (.int .u8 0), PV.sc (.int .u8 0), PV.sc (.int .u8 0), PV.sc (.int .u8 0), PV.sc (.int .u8 0), PV.sc (.int .u8 0), PV.sc (.int .u8 0), PV.sc (.int .u8 0), PV.sc (.int .u8 0), PV.sc (.int .u8 0), PV.sc (.int .u8 0), PV.sc (.int .u8 0), PV.sc (.int .u8 0), PV.sc (.int .u8 0), PV.sc (.int .u8 0), PV.sc (.int .u8 0), PV.sc (.int .u8 0), PV.sc (.int .u8 0), PV.sc (.int .u8 0), PV.sc (.int .u8 0), PV.sc (.int .u8 0), PV.sc (.int .u8 0)])) 54)) :: parts)) && decide ((flat (PV.ro 5 false false (pu IntKind.u8 (xorB (ints (List.take 64 (List.take 32 (pu IntKind.u8 (sumP (ints (flat [PV.ro 5 key_z key_f key]))))) ++ List.drop (0 + min (List.take 32 (pu IntKind.u8 (sumP (ints (flat [PV.ro 5 key_z key_f key]))))).length 64) [PV.sc (.int .u8 0), PV.sc (.int .u8 0), PV.sc (.int .u8 0), PV.sc (.int .u8 0), PV.sc (.int .u8 0), PV.sc (.int .u8 0), PV.sc (.int .u8 0), PV.sc (.int .u8 0), PV.sc (.int .u8 0), PV.sc (.int .u8 0), PV.sc (.int .u8 0), PV.sc (.int .u8 0), PV.sc (.int .u8 0), PV.sc (.int .u8 0), PV.sc (.int .u8 0), PV.sc (.int .u8 0), PV.sc (.int .u8 0), PV.sc (.int .u8 0), PV.sc (.int .u8 0), PV.sc (.int .u8 0), PV.sc (.int .u8 0), PV.sc (.int .u8 0), PV.sc (.int .u8 0), PV.sc (.int .u8 0), PV.sc (.int .u8 0), PV.sc (.int .u8 0), PV.sc (.int .u8 0), PV.sc (.int .u8 0), PV.sc (.int .u8 0), PV.sc (.int .u8 0), PV.sc (.int .u8 0), PV.sc (.int .u8 0), PV.sc (.int .u8 0), PV.sc (.int .u8 0), PV.sc (.int .u8 0), PV.sc (.int .u8 0), PV.sc (.int .u8 0), PV.sc (.int .u8 0), PV.sc (.int .u8 0), PV.sc (.int .u8 0), PV.sc (.int .u8 0), PV.sc (.int .u8 0), PV.sc (.int .u8 0), PV.sc (.int .u8 0), PV.sc (.int .u8 0), PV.sc (.int .u8 0), PV.sc (.int .u8 0), PV.sc (.int .u8 0), PV.sc (.int .u8 0), PV.sc (.int .u8 0), PV.sc (.int .u8 0), PV.sc (.int .u8 0), PV.sc (.int .u8 0), PV.sc (.int .u8 0), PV.sc (.int .u8 0), PV.sc (.int .u8 0), PV.sc (.int .u8 0), PV.sc (.int .u8 0), PV.sc (.int .u8 0), PV.sc (.int .u8 0), PV.sc (.int .u8 0), PV.sc (.int .u8 0), PV.sc (.int .u8 0), PV.sc (.int .u8 0)])) 54)) :: parts)).length ≤ 140737488355000)) then bif allInt IntKind.u8 (List.take 64 (List.take 32 (pu IntKind.u8 (sumP (ints (flat [PV.ro 5 key_z key_f key]))))) ++ List.drop (0 + min (List.take 32 (pu IntKind.u8 (sumP (ints (flat [PV.ro 5 key_z key_f key]))))).length 64) [PV.sc (.int .u8 0), PV.sc (.int .u8 0), PV.sc (.int .u8 0), PV.sc (.int .u8 0), PV.sc (.int .u8 0), PV.sc (.int .u8 0), PV.sc (.int .u8 0), PV.sc (.int .u8 0), PV.sc (.int .u8 0), PV.sc (.int .u8 0), PV.sc (.int .u8 0), PV.sc (.int .u8 0), PV.sc (.int .u8 0), PV.sc (.int .u8 0), PV.sc (.int .u8 0), PV.sc (.int .u8 0), PV.sc (.int .u8 0), PV.sc (.int .u8 0), PV.sc (.int .u8 0), PV.sc (.int .u8 0), PV.sc (.int .u8 0), PV.sc (.int .u8 0), PV.sc (.int .u8 0), PV.sc (.int .u8 0), PV.sc (.int .u8 0), PV.sc (.int .u8 0), PV.sc (.int .u8 0), PV.sc (.int .u8 0), PV.sc (.int .u8 0), PV.sc (.int .u8 0), PV.sc (.int .u8 0), PV.sc (.int .u8 0), PV.sc (.int .u8 0), PV.sc (.int .u8 0), PV.sc (.int .u8 0), PV.sc (.int .u8 0), PV.sc (.int .u8 0), PV.sc (.int .u8 0), PV.sc (.int .u8 0), PV.sc (.int .u8 0), PV.sc (.int .u8 0), PV.sc (.int .u8 0), PV.sc (.int .u8 0), PV.sc (.int .u8 0), PV.sc (.int .u8 0), PV.sc (.int .u8 0), PV.sc (.int .u8 0), PV.sc (.int .u8 0), PV.sc (.int .u8 0), PV.sc (.int .u8 0), PV.sc (.int .u8 0), PV.sc (.int .u8 0), PV.sc (.int .u8 0), PV.sc (.int .u8 0), PV.sc (.int .u8 0), PV.sc (.int .u8 0), PV.sc (.int .u8 0), PV.sc (.int .u8 0), PV.sc (.int .u8 0), PV.sc (.int .u8 0), PV.sc (.int .u8 0), PV.sc (.int .u8 0), PV.sc (.int .u8 0), PV.sc (.int .u8 0)]) && decide ((List.take 64 (List.take 32 (pu IntKind.u8 (sumP (ints (flat [PV.ro 5 key_z key_f key]))))) ++ List.drop (0 + min (List.take 32 (pu IntKind.u8 (sumP (ints (flat [PV.ro 5 key_z key_f key]))))).length 64) [PV.sc (.int .u8 0), PV.sc (.int .u8 0), PV.sc (.int .u8 0), PV.sc (.int .u8 0), PV.sc (.int .u8 0), PV.sc (.int .u8 0), PV.sc (.int .u8 0), PV.sc (.int .u8 0), PV.sc (.int .u8 0), PV.sc (.int .u8 0), PV.sc (.int .u8 0), PV.sc (.int .u8 0), PV.sc (.int .u8 0), PV.sc (.int .u8 0), PV.sc (.int .u8 0), PV.sc (.int .u8 0), PV.sc (.int .u8 0), PV.sc (.int .u8 0), PV.sc (.int .u8 0), PV.sc (.int .u8 0), PV.sc (.int .u8 0), PV.sc (.int .u8 0), PV.sc (.int .u8 0), PV.sc (.int .u8 0), PV.sc (.int .u8 0), PV.sc (.int .u8 0), PV.sc (.int .u8 0), PV.sc (.int .u8 0), PV.sc (.int .u8 0), PV.sc (.int .u8 0), PV.sc (.int .u8 0), PV.sc (.int .u8 0), PV.sc (.int .u8 0), PV.sc (.int .u8 0), PV.sc (.int .u8 0), PV.sc (.int .u8 0), PV.sc (.int .u8 0), PV.sc (.int .u8 0), PV.sc (.int .u8 0), PV.sc (.int .u8 0), PV.sc (.int .u8 0), PV.sc (.int .u8 0), PV.sc (.int .u8 0), PV.sc (.int .u8 0), PV.sc (.int .u8 0), PV.sc (.int .u8 0), PV.sc (.int .u8 0), PV.sc (.int .u8 0), PV.sc (.int .u8 0), PV.sc (.int .u8 0), PV.sc (.int .u8 0), PV.sc (.int .u8 0), PV.sc (.int .u8 0), PV.sc (.int .u8 0), PV.sc (.int .u8 0), PV.sc (.int .u8 0), PV.sc (.int .u8 0), PV.sc (.int .u8 0), PV.sc (.int .u8 0), PV.sc (.int .u8 0), PV.sc (.int .u8 0), PV.sc (.int .u8 0), PV.sc (.int .u8 0), PV.sc (.int .u8 0)]).length = 64) && true then bif allInt IntKind.u8 (flat [PV.ro 5 false false (pu IntKind.u8 (xorB (ints (List.take 64 (List.take 32 (pu IntKind.u8 (sumP (ints (flat [PV.ro 5 key_z key_f key]))))) ++ List.drop (0 + min (List.take 32 (pu IntKind.u8 (sumP (ints (flat [PV.ro 5 key_z key_f key]))))).length 64) [PV.sc (.int .u8 0), PV.sc (.int .u8 0), PV.sc (.int .u8 0), PV.sc (.int .u8 0), PV.sc (.int .u8 0), PV.sc (.int .u8 0), PV.sc (.int .u8 0), PV.sc (.int .u8 0), PV.sc (.int .u8 0), PV.sc (.int .u8 0), PV.sc (.int .u8 0), PV.sc (.int .u8 0), PV.sc (.int .u8 0), PV.sc (.int .u8 0), PV.sc (.int .u8 0), PV.sc (.int .u8 0), PV.sc (.int .u8 0), PV.sc (.int .u8 0), PV.sc (.int .u8 0), PV.sc (.int .u8 0), PV.sc (.int .u8 0), PV.sc (.int .u8 0), PV.sc (.int .u8 0), PV.sc (.int .u8 0), PV.sc (.int .u8 0), PV.sc (.int .u8 0), PV.sc (.int .u8 0), PV.sc (.int .u8 0), PV.sc (.int .u8 0), PV.sc (.int .u8 0), PV.sc (.int .u8 0), PV.sc (.int .u8 0), PV.sc (.int .u8 0), PV.sc (.int .u8 0), PV.sc (.int .u8 0), PV.sc (.int .u8 0), PV.sc (.int .u8 0), PV.sc (.int .u8 0), PV.sc (.int .u8 0), PV.sc (.int .u8 0), PV.sc (.int .u8 0), PV.sc (.int .u8 0), PV.sc (.int .u8 0), PV.sc (.int .u8 0), PV.sc (.int .u8 0), PV.sc (.int .u8 0), PV.sc (.int .u8 0), PV.sc (.int .u8 0), PV.sc (.int .u8 0), PV.sc (.int .u8 0), PV.sc (.int .u8 0), PV.sc (.int .u8 0), PV.sc (.int .u8 0), PV.sc (.int .u8 0), PV.sc (.int .u8 0), PV.sc (.int .u8 0), PV.sc (.int .u8 0), PV.sc (.int .u8 0), PV.sc (.int .u8 0), PV.sc (.int .u8 0), PV.sc (.int .u8 0), PV.sc (.int .u8 0), PV.sc (.int .u8 0), PV.sc (.int .u8 0)])) 92)), PV.ro 5 false false (List.take 32 (pu IntKind.u8 (sumP (ints (flat (PV.ro 5 false false (pu IntKind.u8 (xorB (ints (List.take 64 (List.take 32 (pu IntKind.u8 (sumP (ints (flat [PV.ro 5 key_z key_f key]))))) ++ List.drop (0 + min (List.take 32 (pu IntKind.u8 (sumP (ints (flat [PV.ro 5 key_z key_f key]))))).length 64) [PV.sc (.int .u8 0), PV.sc (.int .u8 0), PV.sc (.int .u8 0), PV.sc (.int .u8 0), PV.sc (.int .u8 0), PV.sc (.int .u8 0), PV.sc (.int .u8 0), PV.sc (.int .u8 0), PV.sc (.int .u8 0), PV.sc (.int .u8 0), PV.sc (.int .u8 0), PV.sc (.int .u8 0), PV.sc (.int .u8 0), PV.sc (.int .u8 0), PV.sc (.int .u8 0), PV.sc (.int .u8 0), PV.sc (.int .u8 0), PV.sc (.int .u8 0), PV.sc (.int .u8 0), PV.sc (.int .u8 0), PV.sc (.int .u8 0), PV.sc (.int .u8 0), PV.sc (.int .u8 0), PV.sc (.int .u8 0), PV.sc (.int .u8 0), PV.sc (.int .u8 0), PV.sc (.int .u8 0), PV.sc (.int .u8 0), PV.sc (.int .u8 0), PV.sc (.int .u8 0), PV.sc (.int .u8 0), PV.sc (.int .u8 0), PV.sc (.int .u8 0), PV.sc (.int .u8 0), PV.sc (.int .u8 0), PV.sc (.int .u8 0), PV.sc (.int .u8 0), PV.sc (.int .u8 0), PV.sc (.int .u8 0), PV.sc (.int .u8 0), PV.sc (.int .u8 0), PV.sc (.int .u8 0), PV.sc (.int .u8 0), PV.sc (.int .u8 0), PV.sc (.int .u8 0), PV.sc (.int .u8 0), PV.sc (.int .u8 0), PV.sc (.int .u8 0), PV.sc (.int .u8 0), PV.sc (.int .u8 0), PV.sc (.int .u8 0), PV.sc (.int .u8 0), PV.sc (.int .u8 0), PV.sc (.int .u8 0), PV.sc (.int .u8 0), PV.sc (.int .u8 0), PV.sc (.int .u8 0), PV.sc (.int .u8 0), PV.sc (.int .u8 0), PV.sc (.int .u8 0), PV.sc (.int .u8 0), PV.sc (.int .u8 0), PV.sc (.int .u8 0), PV.sc (.int .u8 0)])) 54)) :: parts))))))]) && decide ((flat [PV.ro 5 false false (pu IntKind.u8 (xorB (ints (List.take 64 (List.take 32 (pu IntKind.u8 (sumP (ints (flat [PV.ro 5 key_z key_f key]))))) ++ List.drop (0 + min (List.take 32 (pu IntKind.u8 (sumP (ints (flat [PV.ro 5 key_z key_f key]))))).length 64) [PV.sc (.int .u8 0), PV.sc (.int .u8 0), PV.sc (.int .u8 0), PV.sc (.int .u8 0), PV.sc (.int .u8 0), PV.sc (.int .u8 0), PV.sc (.int .u8 0), PV.sc (.int .u8 0), PV.sc (.int .u8 0), PV.sc (.int .u8 0), PV.sc (.int .u8 0), PV.sc (.int .u8 0), PV.sc (.int .u8 0), PV.sc (.int .u8 0), PV.sc (.int .u8 0), PV.sc (.int .u8 0), PV.sc (.int .u8 0), PV.sc (.int .u8 0), PV.sc (.int .u8 0), PV.sc (.int .u8 0), PV.sc (.int .u8 0), PV.sc (.int .u8 0), PV.sc (.int .u8 0), PV.sc (.int .u8 0), PV.sc (.int .u8 0), PV.sc (.int .u8 0), PV.sc (.int .u8 0), PV.sc (.int .u8 0), PV.sc (.int .u8 0), PV.sc (.int .u8 0), PV.sc (.int .u8 0), PV.sc (.int .u8 0), PV.sc (.int .u8 0), PV.sc (.int .u8 0), PV.sc (.int .u8 0), PV.sc (.int .u8 0), PV.sc (.int .u8 0), PV.sc (.int .u8 0), PV.sc (.int .u8 0), PV.sc (.int .u8 0), PV.sc (.int .u8 0), PV.sc (.int .u8 0), PV.sc (.int .u8 0), PV.sc (.int .u8 0), PV.sc (.int .u8 0), PV.sc (.int .u8 0), PV.sc (.int .u8 0), PV.sc (.int .u8 0), PV.sc (.int .u8 0), PV.sc (.int .u8 0), PV.sc (.int .u8 0), PV.sc (.int .u8 0), PV.sc (.int .u8 0), PV.sc (.int .u8 0), PV.sc (.int .u8 0), PV.sc (.int .u8 0), PV.sc (.int .u8 0), PV.sc (.int .u8 0), PV.sc (.int .u8 0), PV.sc (.int .u8 0), PV.sc (.int .u8 0), PV.sc (.int .u8 0), PV.sc (.int .u8 0), PV.sc (.int .u8 0)])) 92)), PV.ro 5 false false (List.take 32 (pu IntKind.u8 (sumP (ints (flat (PV.ro 5 false false (pu IntKind.u8 (xorB (ints (List.take 64 (List.take 32 (pu IntKind.u8 (sumP (ints (flat [PV.ro 5 key_z key_f key]))))) ++ List.drop (0 + min (List.take 32 (pu IntKind.u8 (sumP (ints (flat [PV.ro 5 key_z key_f key]))))).length 64) [PV.sc (.int .u8 0), PV.sc (.int .u8 0), PV.sc (.int .u8 0), PV.sc (.int .u8 0), PV.sc (.int .u8 0), PV.sc (.int .u8 0), PV.sc (.int .u8 0), PV.sc (.int .u8 0), PV.sc (.int .u8 0), PV.sc (.int .u8 0), PV.sc (.int .u8 0), PV.sc (.int .u8 0), PV.sc (.int .u8 0), PV.sc (.int .u8 0), PV.sc (.int .u8 0), PV.sc (.int .u8 0), PV.sc (.int .u8 0), PV.sc (.int .u8 0), PV.sc (.int .u8 0), PV.sc (.int .u8 0), PV.sc (.int .u8 0), PV.sc (.int .u8 0), PV.sc (.int .u8 0), PV.sc (.int .u8 0), PV.sc (.int .u8 0), PV.sc (.int .u8 0), PV.sc (.int .u8 0), PV.sc (.int .u8 0), PV.sc (.int .u8 0), PV.sc (.int .u8 0), PV.sc (.int .u8 0), PV.sc (.int .u8 0), PV.sc (.int .u8 0), PV.sc (.int .u8 0), PV.sc (.int .u8 0), PV.sc (.int .u8 0), PV.sc (.int .u8 0), PV.sc (.int .u8 0), PV.sc (.int .u8 0), PV.sc (.int .u8 0), PV.sc (.int .u8 0), PV.sc (.int .u8 0), PV.sc (.int .u8 0), PV.sc (.int .u8 0), PV.sc (.int .u8 0), PV.sc (.int .u8 0), PV.sc (.int .u8 0), PV.sc (.int .u8 0), PV.sc (.int .u8 0), PV.sc (.int .u8 0), PV.sc (.int .u8 0), PV.sc (.int .u8 0), PV.sc (.int .u8 0), PV.sc (.int .u8 0), PV.sc (.int .u8 0), PV.sc (.int .u8 0), PV.sc (.int .u8 0), PV.sc (.int .u8 0), PV.sc (.int .u8 0), PV.sc (.int .u8 0), PV.sc (.int .u8 0), PV.sc (.int .u8 0), PV.sc (.int .u8 0), PV.sc (.int .u8 0)])) 54)) :: parts))))))]).length ≤ 140737488355000) then k (Res.mk (PV.ar 37 (pu IntKind.u8 (sumP (ints (flat [PV.ro 5 false false (pu IntKind.u8 (xorB (ints (List.take 64 (List.take 32 (pu IntKind.u8 (sumP (ints (flat [PV.ro 5 key_z key_f key]))))) ++ List.drop (0 + min (List.take 32 (pu IntKind.u8 (sumP (ints (flat [PV.ro 5 key_z key_f key]))))).length 64) [PV.sc (.int .u8 0), PV.sc (.int .u8 0), PV.sc (.int .u8 0), PV.sc (.int .u8 0), PV.sc (.int .u8 0), PV.sc (.int .u8 0), PV.sc (.int .u8 0), PV.sc (.int .u8 0), PV.sc (.int .u8 0), PV.sc (.int .u8 0), PV.sc (.int .u8 0), PV.sc (.int .u8 0), PV.sc (.int .u8 0), PV.sc (.int .u8 0), PV.sc (.int .u8 0), PV.sc (.int .u8 0), PV.sc (.int .u8 0), PV.sc (.int .u8 0), PV.sc (.int .u8 0), PV.sc (.int .u8 0), PV.sc (.int .u8 0), PV.sc (.int .u8 0), PV.sc (.int .u8 0), PV.sc (.int .u8 0), PV.sc (.int .u8 0), PV.sc (.int .u8 0), PV.sc (.int .u8 0), PV.sc (.int .u8 0), PV.sc (.int .u8 0), PV.sc (.int .u8 0), PV.sc (.int .u8 0), PV.sc (.int .u8 0), PV.sc (.int .u8 0), PV.sc (.int .u8 0), PV.sc (.int .u8 0), PV.sc (.int .u8 0), PV.sc (.int .u8 0), PV.sc (.int .u8 0), PV.sc (.int .u8 0), PV.sc (.int .u8 0), PV.sc (.int .u8 0), PV.sc (.int .u8 0), PV.sc (.int .u8 0), PV.sc (.int .u8 0), PV.sc (.int .u8 0), PV.sc (.int .u8 0), PV.sc (.int .u8 0), PV.sc (.int .u8 0), PV.sc (.int .u8 0), PV.sc (.int .u8 0), PV.sc (.int .u8 0), PV.sc (.int .u8 0), PV.sc (.int .u8 0), PV.sc (.int .u8 0), PV.sc (.int .u8 0), PV.sc (.int .u8 0), PV.sc (.int .u8 0), PV.sc (.int .u8 0), PV.sc (.int .u8 0), PV.sc (.int .u8 0), PV.sc (.int .u8 0), PV.sc (.int .u8 0), PV.sc (.int .u8 0), PV.sc (.int .u8 0)])) 92)), PV.ro 5 false false (List.take 32 (pu IntKind.u8 (sumP (ints (flat (PV.ro 5 false false (pu IntKind.u8 (xorB (ints (List.take 64 (List.take 32 (pu IntKind.u8 (sumP (ints (flat [PV.ro 5 key_z key_f key]))))) ++ List.drop (0 + min (List.take 32 (pu IntKind.u8 (sumP (ints (flat [PV.ro 5 key_z key_f key]))))).length 64) [PV.sc (.int .u8 0), PV.sc (.int .u8 0), PV.sc (.int .u8 0), PV.sc (.int .u8 0), PV.sc (.int .u8 0), PV.sc (.int .u8 0), PV.sc (.int .u8 0), PV.sc (.int .u8 0), PV.sc (.int .u8 0), PV.sc (.int .u8 0), PV.sc (.int .u8 0), PV.sc (.int .u8 0), PV.sc (.int .u8 0), PV.sc (.int .u8 0), PV.sc (.int .u8 0), PV.sc (.int .u8 0), PV.sc (.int .u8 0), PV.sc (.int .u8 0), PV.sc (.int .u8 0), PV.sc (.int .u8 0), PV.sc (.int .u8 0), PV.sc (.int .u8 0), PV.sc (.int .u8 0), PV.sc (.int .u8 0), PV.sc (.int .u8 0), PV.sc (.int .u8 0), PV.sc (.int .u8 0), PV.sc (.int .u8 0), PV.sc (.int .u8 0), PV.sc (.int .u8 0), PV.sc (.int .u8 0), PV.sc (.int .u8 0), PV.sc (.int .u8 0), PV.sc (.int .u8 0), PV.sc (.int .u8 0), PV.sc (.int .u8 0), PV.sc (.int .u8 0), PV.sc (.int .u8 0), PV.sc (.int .u8 0), PV.sc (.int .u8 0), PV.sc (.int .u8 0), PV.sc (.int .u8 0), PV.sc (.int .u8 0), PV.sc (.int .u8 0), PV.sc (.int .u8 0), PV.sc (.int .u8 0), PV.sc (.int .u8 0), PV.sc (.int .u8 0), PV.sc (.int .u8 0), PV.sc (.int .u8 0), PV.sc (.int .u8 0), PV.sc (.int .u8 0), PV.sc (.int .u8 0), PV.sc (.int .u8 0), PV.sc (.int .u8 0), PV.sc (.int .u8 0), PV.sc (.int .u8 0), PV.sc (.int .u8 0), PV.sc (.int .u8 0), PV.sc (.int .u8 0), PV.sc (.int .u8 0), PV.sc (.int .u8 0), PV.sc (.int .u8 0), PV.sc (.int .u8 0)])) 54)) :: parts))))))]))))) [] []) else none else none else none else none else none else none else none else bif parts_z then bif allInt IntKind.u8 (List.take 64 key ++ List.drop (0 + min key.length 64) [PV.sc (.int .u8 0), PV.sc (.int .u8 0), PV.sc (.int .u8 0), PV.sc (.int .u8 0), PV.sc (.int .u8 0), PV.sc (.int .u8 0), PV.sc (.int .u8 0), PV.sc (.int .u8 0), PV.sc (.int .u8 0), PV.sc (.int .u8 0), PV.sc (.int .u8 0), PV.sc (.int .u8 0), PV.sc (.int .u8 0), PV.sc (.int .u8 0), PV.sc (.int .u8 0), PV.sc (.int .u8 0), PV.sc (.int .u8 0), PV.sc (.int .u8 0), PV.sc (.int .u8 0), PV.sc (.int .u8 0), PV.sc (.int .u8 0), PV.sc (.int .u8 0), PV.sc (.int .u8 0), PV.sc (.int .u8 0), PV.sc (.int .u8 0), PV.sc (.int .u8 0), PV.sc (.int .u8 0), PV.sc (.int .u8 0), PV.sc (.int .u8 0), PV.sc (.int .u8 0), PV.sc (.int .u8 0), PV.sc (.int .u8 0), PV.sc (.int .u8 0), PV.sc (.int .u8 0), PV.sc (.int .u8 0), PV.sc (.int .u8 0), PV.sc (.int .u8 0), PV.sc (.int .u8 0), PV.sc (.int .u8 0), PV.sc (.int .u8 0), PV.sc (.int .u8 0), PV.sc (.int .u8 0), PV.sc (.int .u8 0), PV.sc (.int .u8 0), PV.sc (.int .u8 0), PV.sc (.int .u8 0), PV.sc (.int .u8 0), PV.sc (.int .u8 0), PV.sc (.int .u8 0), PV.sc (.int .u8 0), PV.sc (.int .u8 0), PV.sc (.int .u8 0), PV.sc (.int .u8 0), PV.sc (.int .u8 0), PV.sc (.int .u8 0), PV.sc (.int .u8 0), PV.sc (.int .u8 0), PV.sc (.int .u8 0), PV.sc (.int .u8 0), PV.sc (.int .u8 0), PV.sc (.int .u8 0), PV.sc (.int .u8 0), PV.sc (.int .u8 0), PV.sc (.int .u8 0)]) && decide ((List.take 64 key ++ List.drop (0 + min key.length 64) [PV.sc (.int .u8 0), PV.sc (.int .u8 0), PV.sc (.int .u8 0), PV.sc (.int .u8 0), PV.sc (.int .u8 0), PV.sc (.int .u8 0), PV.sc (.int .u8 0), PV.sc (.int .u8 0), PV.sc (.int .u8 0), PV.sc (.int .u8 0), PV.sc (.int .u8 0), PV.sc (.int .u8 0), PV.sc (.int .u8 0), PV.sc (.int .u8 0), PV.sc (.int .u8 0), PV.sc (.int .u8 0), PV.sc (.int .u8 0), PV.sc (.int .u8 0), PV.sc (.int .u8 0), PV.sc (.int .u8 0), PV.sc (.int .u8 0), PV.sc (.int .u8 0), PV.sc (.int .u8 0), PV.sc (.int .u8 0), PV.sc (.int .u8 0), PV.sc (.int .u8 0), PV.sc (.int .u8 0), PV.sc (.int .u8 0), PV.sc (.int .u8 0), PV.sc (.int .u8 0), PV.sc (.int .u8 0), PV.sc (.int .u8 0), PV.sc (.int .u8 0), PV.sc (.int .u8 0), PV.sc (.int .u8 0), PV.sc (.int .u8 0), PV.sc (.int .u8 0), PV.sc (.int .u8 0), PV.sc (.int .u8 0), PV.sc (.int .u8 0), PV.sc (.int .u8 0), PV.sc (.int .u8 0), PV.sc (.int .u8 0), PV.sc (.int .u8 0), PV.sc (.int .u8 0), PV.sc (.int .u8 0), PV.sc (.int .u8 0), PV.sc (.int .u8 0), PV.sc (.int .u8 0), PV.sc (.int .u8 0), PV.sc (.int .u8 0), PV.sc (.int .u8 0), PV.sc (.int .u8 0), PV.sc (.int .u8 0), PV.sc (.int .u8 0), PV.sc (.int .u8 0), PV.sc (.int .u8 0), PV.sc (.int .u8 0), PV.sc (.int .u8 0), PV.sc (.int .u8 0), PV.sc (.int .u8 0), PV.sc (.int .u8 0), PV.sc (.int .u8 0), PV.sc (.int .u8 0)]).length = 64) && true then bif allInt IntKind.u8 (flat [PV.ro 5 false false (pu IntKind.u8 (xorB (ints (List.take 64 key ++ List.drop (0 + min key.length 64) [PV.sc (.int .u8 0), PV.sc (.int .u8 0), PV.sc (.int .u8 0), PV.sc (.int .u8 0), PV.sc (.int .u8 0), PV.sc (.int .u8 0), PV.sc (.int .u8 0), PV.sc (.int .u8 0), PV.sc (.int .u8 0), PV.sc (.int .u8 0), PV.sc (.int .u8 0), PV.sc (.int .u8 0), PV.sc (.int .u8 0), PV.sc (.int .u8 0), PV.sc (.int .u8 0), PV.sc (.int .u8 0), PV.sc (.int .u8 0), PV.sc (.int .u8 0), PV.sc (.int .u8 0), PV.sc (.int .u8 0), PV.sc (.int .u8 0), PV.sc (.int .u8 0), PV.sc (.int .u8 0), PV.sc (.int .u8 0), PV.sc (.int .u8 0), PV.sc (.int .u8 0), PV.sc (.int .u8 0), PV.sc (.int .u8 0), PV.sc (.int .u8 0), PV.sc (.int .u8 0), PV.sc (.int .u8 0), PV.sc (.int .u8 0), PV.sc (.int .u8 0), PV.sc (.int .u8 0), PV.sc (.int .u8 0), PV.sc (.int .u8 0), PV.sc (.int .u8 0), PV.sc (.int .u8 0), PV.sc (.int .u8 0), PV.sc (.int .u8 0), PV.sc (.int .u8 0), PV.sc (.int .u8 0), PV.sc (.int .u8 0), PV.sc (.int .u8 0), PV.sc (.int .u8 0), PV.sc (.int .u8 0), PV.sc (.int .u8 0), PV.sc (.int .u8 0), PV.sc (.int .u8 0), PV.sc (.int .u8 0), PV.sc (.int .u8 0), PV.sc (.int .u8 0), PV.sc (.int .u8 0), PV.sc (.int .u8 0), PV.sc (.int .u8 0), PV.sc (.int .u8 0), PV.sc (.int .u8 0), PV.sc (.int .u8 0), PV.sc (.int .u8 0), PV.sc (.int .u8 0), PV.sc (.int .u8 0), PV.sc (.int .u8 0), PV.sc (.int .u8 0), PV.sc (.int .u8 0)])) 54))]) && decide ((flat [PV.ro 5 false false (pu IntKind.u8 (xorB (ints (List.take 64 key ++ List.drop (0 + min key.length 64) [PV.sc (.int .u8 0), PV.sc (.int .u8 0), PV.sc (.int .u8 0), PV.sc (.int .u8 0), PV.sc (.int .u8 0), PV.sc (.int .u8 0), PV.sc (.int .u8 0), PV.sc (.int .u8 0), PV.sc (.int .u8 0), PV.sc (.int .u8 0), PV.sc (.int .u8 0), PV.sc (.int .u8 0), PV.sc (.int .u8 0), PV.sc (.int .u8 0), PV.sc (.int .u8 0), PV.sc (.int .u8 0), PV.sc (.int .u8 0), PV.sc (.int .u8 0), PV.sc (.int .u8 0), PV.sc (.int .u8 0), PV.sc (.int .u8 0), PV.sc (.int .u8 0), PV.sc (.int .u8 0), PV.sc (.int .u8 0), PV.sc (.int .u8 0), PV.sc (.int .u8 0), PV.sc (.int .u8 0), PV.sc (.int .u8 0), PV.sc (.int .u8 0), PV.sc (.int .u8 0), PV.sc (.int .u8 0), PV.sc (.int .u8 0), PV.sc (.int .u8 0), PV.sc (.int .u8 0), PV.sc (.int .u8 0), PV.sc (.int .u8 0), PV.sc (.int .u8 0), PV.sc (.int .u8 0), PV.sc (.int .u8 0), PV.sc (.int .u8 0), PV.sc (.int .u8 0), PV.sc (.int .u8 0), PV.sc (.int .u8 0), PV.sc (.int .u8 0), PV.sc (.int .u8 0), PV.sc (.int .u8 0), PV.sc (.int .u8 0), PV.sc (.int .u8 0), PV.sc (.int .u8 0), PV.sc (.int .u8 0), PV.sc (.int .u8 0), PV.sc (.int .u8 0), PV.sc (.int .u8 0), PV.sc (.int .u8 0), PV.sc (.int .u8 0), PV.sc (.int .u8 0), PV.sc (.int .u8 0), PV.sc (.int .u8 0), PV.sc (.int .u8 0), PV.sc (.int .u8 0), PV.sc (.int .u8 0), PV.sc (.int .u8 0), PV.sc (.int .u8 0), PV.sc (.int .u8 0)])) 54))]).length ≤ 140737488355000) then bif allInt IntKind.u8 (List.take 64 key ++ List.drop (0 + min key.length 64) [PV.sc (.int .u8 0), PV.sc (.int .u8 0), PV.sc (.int .u8 0), PV.sc (.int .u8 0), PV.sc (.int .u8 0), PV.sc (.int .u8 0), PV.sc (.int .u8 0), PV.sc (.int .u8 0), PV.sc (.int .u8 0), PV.sc (.int .u8 0), PV.sc (.int .u8 0), PV.sc (.int .u8 0), PV.sc (.int .u8 0), PV.sc (.int .u8 0), PV.sc (.int .u8 0), PV.sc (.int .u8 0), PV.sc (.int .u8 0), PV.sc (.int .u8 0), PV.sc (.int .u8 0), PV.sc (.int .u8 0), PV.sc (.int .u8 0), PV.sc (.int .u8 0), PV.sc (.int .u8 0), PV.sc (.int .u8 0), PV.sc (.int .u8 0), PV.sc (.int .u8 0), PV.sc (.int .u8 0), PV.sc (.int .u8 0), PV.sc (.int .u8 0), PV.sc (.int .u8 0), PV.sc (.int .u8 0), PV.sc (.int .u8 0), PV.sc (.int .u8 0), PV.sc (.int .u8 0), PV.sc (.int .u8 0), PV.sc (.int .u8 0), PV.sc (.int .u8 0), PV.sc (.int .u8 0), PV.sc (.int .u8 0), PV.sc (.int .u8 0), PV.sc (.int .u8 0), PV.sc (.int .u8 0), PV.sc (.int .u8 0), PV.sc (.int .u8 0), PV.sc (.int .u8 0), PV.sc (.int .u8 0), PV.sc (.int .u8 0), PV.sc (.int .u8 0), PV.sc (.int .u8 0), PV.sc (.int .u8 0), PV.sc (.int .u8 0), PV.sc (.int .u8 0), PV.sc (.int .u8 0), PV.sc (.int .u8 0), PV.sc (.int .u8 0), PV.sc (.int .u8 0), PV.sc (.int .u8 0), PV.sc (.int .u8 0), PV.sc (.int .u8 0), PV.sc (.int .u8 0), PV.sc (.int .u8 0), PV.sc (.int .u8 0), PV.sc (.int .u8 0), PV.sc (.int .u8 0)]) && decide ((List.take 64 key ++ List.drop (0 + min key.length 64) [PV.sc (.int .u8 0), PV.sc (.int .u8 0), PV.sc (.int .u8 0), PV.sc (.int .u8 0), PV.sc (.int .u8 0), PV.sc (.int .u8 0), PV.sc (.int .u8 0), PV.sc (.int .u8 0), PV.sc (.int .u8 0), PV.sc (.int .u8 0), PV.sc (.int .u8 0), PV.sc (.int .u8 0), PV.sc (.int .u8 0), PV.sc (.int .u8 0), PV.sc (.int .u8 0), PV.sc (.int .u8 0), PV.sc (.int .u8 0), PV.sc (.int .u8 0), PV.sc (.int .u8 0), PV.sc (.int .u8 0), PV.sc (.int .u8 0), PV.sc (.int .u8 0), PV.sc (.int .u8 0), PV.sc (.int .u8 0), PV.sc (.int .u8 0), PV.sc (.int .u8 0), PV.sc (.int .u8 0), PV.sc (.int .u8 0), PV.sc (.int .u8 0), PV.sc (.int .u8 0), PV.sc (.int .u8 0), PV.sc (.int .u8 0), PV.sc (.int .u8 0), PV.sc (.int .u8 0), PV.sc (.int .u8 0), PV.sc (.int .u8 0), PV.sc (.int .u8 0), PV.sc (.int .u8 0), PV.sc (.int .u8 0), PV.sc (.int .u8 0), PV.sc (.int .u8 0), PV.sc (.int .u8 0), PV.sc (.int .u8 0), PV.sc (.int .u8 0), PV.sc (.int .u8 0), PV.sc (.int .u8 0), PV.sc (.int .u8 0), PV.sc (.int .u8 0), PV.sc (.int .u8 0), PV.sc (.int .u8 0), PV.sc (.int .u8 0), PV.sc (.int .u8 0), PV.sc (.int .u8 0), PV.sc (.int .u8 0), PV.sc (.int .u8 0), PV.sc (.int .u8 0), PV.sc (.int .u8 0), PV.sc (.int .u8 0), PV.sc (.int .u8 0), PV.sc (.int .u8 0), PV.sc (.int .u8 0), PV.sc (.int .u8 0), PV.sc (.int .u8 0), PV.sc (.int .u8 0)]).length = 64) && true then bif allInt IntKind.u8 (flat [PV.ro 5 false false (pu IntKind.u8 (xorB (ints (List.take 64 key ++ List.drop (0 + min key.length 64) [PV.sc (.int .u8 0), PV.sc (.int .u8 0), PV.sc (.int .u8 0), PV.sc (.int .u8 0), PV.sc (.int .u8 0), PV.sc (.int .u8 0), PV.sc (.int .u8 0), PV.sc (.int .u8 0), PV.sc (.int .u8 0), PV.sc (.int .u8 0), PV.sc (.int .u8 0), PV.sc (.int .u8 0), PV.sc (.int .u8 0), PV.sc (.int .u8 0), PV.sc (.int .u8 0), PV.sc (.int .u8 0), PV.sc (.int .u8 0), PV.sc (.int .u8 0), PV.sc (.int .u8 0), PV.sc (.int .u8 0), PV.sc (.int .u8 0), PV.sc (.int .u8 0), PV.sc (.int .u8 0), PV.sc (.int .u8 0), PV.sc (.int .u8 0), PV.sc (.int .u8 0), PV.sc (.int .u8 0), PV.sc (.int .u8 0), PV.sc (.int .u8 0), PV.sc (.int .u8 0), PV.sc (.int .u8 0), PV.sc (.int .u8 0), PV.sc (.int .u8 0), PV.sc (.int .u8 0), PV.sc (.int .u8 0), PV.sc (.int .u8 0), PV.sc (.int .u8 0), PV.sc (.int .u8 0), PV.sc (.int .u8 0), PV.sc (.int .u8 0), PV.sc (.int .u8 0), PV.sc (.int .u8 0), PV.sc (.int .u8 0), PV.sc (.int .u8 0), PV.sc (.int .u8 0), PV.sc (.int .u8 0), PV.sc (.int .u8 0), PV.sc (.int .u8 0), PV.sc (.int .u8 0), PV.sc (.int .u8 0), PV.sc (.int .u8 0), PV.sc (.int .u8 0), PV.sc (.int .u8 0), PV.sc (.int .u8 0), PV.sc (.int .u8 0), PV.sc (.int .u8 0), PV.sc (.int .u8 0), PV.sc (.int .u8 0), PV.sc (.int .u8 0), PV.sc (.int .u8 0), PV.sc (.int .u8 0), PV.sc (.int .u8 0), PV.sc (.int .u8 0), PV.sc (.int .u8 0)])) 92)), PV.ro 5 false false (List.take 32 (pu IntKind.u8 (sumP (ints (flat [PV.ro 5 false false (pu IntKind.u8 (xorB (ints (List.take 64 key ++ List.drop (0 + min key.length 64) [PV.sc (.int .u8 0), PV.sc (.int .u8 0), PV.sc (.int .u8 0), PV.sc (.int .u8 0), PV.sc (.int .u8 0), PV.sc (.int .u8 0), PV.sc (.int .u8 0), PV.sc (.int .u8 0), PV.sc (.int .u8 0), PV.sc (.int .u8 0), PV.sc (.int .u8 0), PV.sc (.int .u8 0), PV.sc (.int .u8 0), PV.sc (.int .u8 0), PV.sc (.int .u8 0), PV.sc (.int .u8 0), PV.sc (.int .u8 0), PV.sc (.int .u8 0), PV.sc (.int .u8 0), PV.sc (.int .u8 0), PV.sc (.int .u8 0), PV.sc (.int .u8 0), PV.sc (.int .u8 0), PV.sc (.int .u8 0), PV.sc (.int .u8 0), PV.sc (.int .u8 0), PV.sc (.int .u8 0), PV.sc (.int .u8 0), PV.sc (.int .u8 0), PV.sc (.int .u8 0), PV.sc (.int .u8 0), PV.sc (.int .u8 0), PV.sc (.int .u8 0), PV.sc (.int .u8 0), PV.sc (.int .u8 0), PV.sc (.int .u8 0), PV.sc (.int .u8 0), PV.sc (.int .u8 0), PV.sc (.int .u8 0), PV.sc (.int .u8 0), PV.sc (.int .u8 0), PV.sc (.int .u8 0), PV.sc (.int .u8 0), PV.sc (.int .u8 0), PV.sc (.int .u8 0), PV.sc (.int .u8 0), PV.sc (.int .u8 0), PV.sc (.int .u8 0), PV.sc (.int .u8 0), PV.sc (.int .u8 0), PV.sc (.int .u8 0), PV.sc (.int .u8 0), PV.sc (.int .u8 0), PV.sc (.int .u8 0), PV.sc (.int .u8 0), PV.sc (.int .u8 0), PV.sc (.int .u8 0), PV.sc (.int .u8 0), PV.sc (.int .u8 0), PV.sc (.int .u8 0), PV.sc (.int .u8 0), PV.sc (.int .u8 0), PV.sc (.int .u8 0), PV.sc (.int .u8 0)])) 54))])))))]) && decide ((flat [PV.ro 5 false false (pu IntKind.u8 (xorB (ints (List.take 64 key ++ List.drop (0 + min key.length 64) [PV.sc (.int .u8 0), PV.sc (.int .u8 0), PV.sc (.int .u8 0), PV.sc (.int .u8 0), PV.sc (.int .u8 0), PV.sc (.int .u8 0), PV.sc (.int .u8 0), PV.sc (.int .u8 0), PV.sc (.int .u8 0), PV.sc (.int .u8 0), PV.sc (.int .u8 0), PV.sc (.int .u8 0), PV.sc (.int .u8 0), PV.sc (.int .u8 0), PV.sc (.int .u8 0), PV.sc (.int .u8 0), PV.sc (.int .u8 0), PV.sc (.int .u8 0), PV.sc (.int .u8 0), PV.sc (.int .u8 0), PV.sc (.int .u8 0), PV.sc (.int .u8 0), PV.sc (.int .u8 0), PV.sc (.int .u8 0), PV.sc (.int .u8 0), PV.sc (.int .u8 0), PV.sc (.int .u8 0), PV.sc (.int .u8 0), PV.sc (.int .u8 0), PV.sc (.int .u8 0), PV.sc (.int .u8 0), PV.sc (.int .u8 0), PV.sc (.int .u8 0), PV.sc (.int .u8 0), PV.sc (.int .u8 0), PV.sc (.int .u8 0), PV.sc (.int .u8 0), PV.sc (.int .u8 0), PV.sc (.int .u8 0), PV.sc (.int .u8 0), PV.sc (.int .u8 0), PV.sc (.int .u8 0), PV.sc (.int .u8 0), PV.sc (.int .u8 0), PV.sc (.int .u8 0), PV.sc (.int .u8 0), PV.sc (.int .u8 0), PV.sc (.int .u8 0), PV.sc (.int .u8 0), PV.sc (.int .u8 0), PV.sc (.int .u8 0), PV.sc (.int .u8 0), PV.sc (.int .u8 0), PV.sc (.int .u8 0), PV.sc (.int .u8 0), PV.sc (.int .u8 0), PV.sc (.int .u8 0), PV.sc (.int .u8 0), PV.sc (.int .u8 0), PV.sc (.int .u8 0), PV.sc (.int .u8 0), PV.sc (.int .u8 0), PV.sc (.int .u8 0), PV.sc (.int .u8 0)])) 92)), PV.ro 5 false false (List.take 32 (pu IntKind.u8 (sumP (ints (flat [PV.ro 5 false false (pu IntKind.u8 (xorB (ints (List.take 64 key ++ List.drop (0 + min key.length 64) [PV.sc (.int .u8 0), PV.sc (.int .u8 0), PV.sc (.int .u8 0), PV.sc (.int .u8 0), PV.sc (.int .u8 0), PV.sc (.int .u8 0), PV.sc (.int .u8 0), PV.sc (.int .u8 0), PV.sc (.int .u8 0), PV.sc (.int .u8 0), PV.sc (.int .u8 0), PV.sc (.int .u8 0), PV.sc (.int .u8 0), PV.sc (.int .u8 0), PV.sc (.int .u8 0), PV.sc (.int .u8 0), PV.sc (.int .u8 0), PV.sc (.int .u8 0), PV.sc (.int .u8 0), PV.sc (.int .u8 0), PV.sc (.int .u8 0), PV.sc (.int .u8 0), PV.sc (.int .u8 0), PV.sc (.int .u8 0), PV.sc (.int .u8 0), PV.sc (.int .u8 0), PV.sc (.int .u8 0), PV.sc (.int .u8 0), PV.sc (.int .u8 0), PV.sc (.int .u8 0), PV.sc (.int .u8 0), PV.sc (.int .u8 0), PV.sc (.int .u8 0), PV.sc (.int .u8 0), PV.sc (.int .u8 0), PV.sc (.int .u8 0), PV.sc (.int .u8 0), PV.sc (.int .u8 0), PV.sc (.int .u8 0), PV.sc (.int .u8 0), PV.sc (.int .u8 0), PV.sc (.int .u8 0), PV.sc (.int .u8 0), PV.sc (.int .u8 0), PV.sc (.int .u8 0), PV.sc (.int .u8 0), PV.sc (.int .u8 0), PV.sc (.int .u8 0), PV.sc (.int .u8 0), PV.sc (.int .u8 0), PV.sc (.int .u8 0), PV.sc (.int .u8 0), PV.sc (.int .u8 0), PV.sc (.int .u8 0), PV.sc (.int .u8 0), PV.sc (.int .u8 0), PV.sc (.int .u8 0), PV.sc (.int .u8 0), PV.sc (.int .u8 0), PV.sc (.int .u8 0), PV.sc (.int .u8 0), PV.sc (.int .u8 0), PV.sc (.int .u8 0), PV.sc (.int .u8 0)])) 54))])))))]).length ≤ 140737488355000) then k (Res.mk (PV.ar 37 (pu IntKind.u8 (sumP (ints (flat [PV.ro 5 false false (pu IntKind.u8 (xorB (ints (List.take 64 key ++ List.drop (0 + min key.length 64) [PV.sc (.int .u8 0), PV.sc (.int .u8 0), PV.sc (.int .u8 0), PV.sc (.int .u8 0), PV.sc (.int .u8 0), PV.sc (.int .u8 0), PV.sc (.int .u8 0), PV.sc (.int .u8 0), PV.sc (.int .u8 0), PV.sc (.int .u8 0), PV.sc (.int .u8 0), PV.sc (.int .u8 0), PV.sc (.int .u8 0), PV.sc (.int .u8 0), PV.sc (.int .u8 0), PV.sc (.int .u8 0), PV.sc (.int .u8 0), PV.sc (.int .u8 0), PV.sc (.int .u8 0), PV.sc (.int .u8 0), PV.sc (.int .u8 0), PV.sc (.int .u8 0), PV.sc (.int .u8 0), PV.sc (.int .u8 0), PV.sc (.int .u8 0), PV.sc (.int .u8 0), PV.sc (.int .u8 0), PV.sc (.int .u8 0), PV.sc (.int .u8 0), PV.sc (.int .u8 0), PV.sc (.int .u8 0), PV.sc (.int .u8 0), PV.sc (.int .u8 0), PV.sc (.int .u8 0), PV.sc (.int .u8 0), PV.sc (.int .u8 0), PV.sc (.int .u8 0), PV.sc (.int .u8 0), PV.sc (.int .u8 0), PV.sc (.int .u8 0), PV.sc (.int .u8 0), PV.sc (.int .u8 0), PV.sc (.int .u8 0), PV.sc (.int .u8 0), PV.sc (.int .u8 0), PV.sc (.int .u8 0), PV.sc (.int .u8 0), PV.sc (.int .u8 0), PV.sc (.int .u8 0), PV.sc (.int .u8 0), PV.sc (.int .u8 0), PV.sc (.int .u8 0), PV.sc (.int .u8 0), PV.sc (.int .u8 0), PV.sc (.int .u8 0), PV.sc (.int .u8 0), PV.sc (.int .u8 0), PV.sc (.int .u8 0), PV.sc (.int .u8 0), PV.sc (.int .u8 0), PV.sc (.int .u8 0), PV.sc (.int .u8 0), PV.sc (.int .u8 0), PV.sc (.int .u8 0)])) 92)), PV.ro 5 false false (List.take 32 (pu IntKind.u8 (sumP (ints (flat [PV.ro 5 false false (pu IntKind.u8 (xorB (ints (List.take 64 key ++ List.drop (0 + min key.length 64) [PV.sc (.int .u8 0), PV.sc (.int .u8 0), PV.sc (.int .u8 0), PV.sc (.int .u8 0), PV.sc (.int .u8 0), PV.sc (.int .u8 0), PV.sc (.int .u8 0), PV.sc (.int .u8 0), PV.sc (.int .u8 0), PV.sc (.int .u8 0), PV.sc (.int .u8 0), PV.sc (.int .u8 0), PV.sc (.int .u8 0), PV.sc (.int .u8 0), PV.sc (.int .u8 0), PV.sc (.int .u8 0), PV.sc (.int .u8 0), PV.sc (.int .u8 0), PV.sc (.int .u8 0), PV.sc (.int .u8 0), PV.sc (.int .u8 0), PV.sc (.int .u8 0), PV.sc (.int .u8 0), PV.sc (.int .u8 0), PV.sc (.int .u8 0), PV.sc (.int .u8 0), PV.sc (.int .u8 0), PV.sc (.int .u8 0), PV.sc (.int .u8 0), PV.sc (.int .u8 0), PV.sc (.int .u8 0), PV.sc (.int .u8 0), PV.sc (.int .u8 0), PV.sc (.int .u8 0), PV.sc (.int .u8 0), PV.sc (.int .u8 0), PV.sc (.int .u8 0), PV.sc (.int .u8 0), PV.sc (.int .u8 0), PV.sc (.int .u8 0), PV.sc (.int .u8 0), PV.sc (.int .u8 0), PV.sc (.int .u8 0), PV.sc (.int .u8 0), PV.sc (.int .u8 0), PV.sc (.int .u8 0), PV.sc (.int .u8 0), PV.sc (.int .u8 0), PV.sc (.int .u8 0), PV.sc (.int .u8 0), PV.sc (.int .u8 0), PV.sc (.int .u8 0), PV.sc (.int .u8 0), PV.sc (.int .u8 0), PV.sc (.int .u8 0), PV.sc (.int .u8 0), PV.sc (.int .u8 0), PV.sc (.int .u8 0), PV.sc (.int .u8 0), PV.sc (.int .u8 0), PV.sc (.int .u8 0), PV.sc (.int .u8 0), PV.sc (.int .u8 0), PV.sc (.int .u8 0)])) 54))])))))]))))) [] []) else none else none else none else none else bif roomy (0 + parts.length) 24 && true then bif allInt IntKind.u8 (List.take 64 key ++ List.drop (0 + min key.length 64) [PV.sc (.int .u8 0), PV.sc (.int .u8 0), PV.sc (.int .u8 0), PV.sc (.int .u8 0), PV.sc (.int .u8 0), PV.sc (.int .u8 0), PV.sc (.int .u8 0), PV.sc (.int .u8 0), PV.sc (.int .u8 0), PV.sc (.int .u8 0), PV.sc (.int .u8 0), PV.sc (.int .u8 0), PV.sc (.int .u8 0), PV.sc (.int .u8 0), PV.sc (.int .u8 0), PV.sc (.int .u8 0), PV.sc (.int .u8 0), PV.sc (.int .u8 0), PV.sc (.int .u8 0), PV.sc (.int .u8 0), PV.sc (.int .u8 0), PV.sc (.int .u8 0), PV.sc (.int .u8 0), PV.sc (.int .u8 0), PV.sc (.int .u8 0), PV.sc (.int .u8 0), PV.sc (.int .u8 0), PV.sc (.int .u8 0), PV.sc (.int .u8 0), PV.sc (.int .u8 0), PV.sc (.int .u8 0), PV.sc (.int .u8 0), PV.sc (.int .u8 0), PV.sc (.int .u8 0), PV.sc (.int .u8 0), PV.sc (.int .u8 0), PV.sc (.int .u8 0), PV.sc (.int .u8 0), PV.sc (.int .u8 0), PV.sc (.int .u8 0), PV.sc (.int .u8 0), PV.sc (.int .u8 0), PV.sc (.int .u8 0), PV.sc (.int .u8 0), PV.sc (.int .u8 0), PV.sc (.int .u8 0), PV.sc (.int .u8 0), PV.sc (.int .u8 0), PV.sc (.int .u8 0), PV.sc (.int .u8 0), PV.sc (.int .u8 0), PV.sc (.int .u8 0), PV.sc (.int .u8 0), PV.sc (.int .u8 0), PV.sc (.int .u8 0), PV.sc (.int .u8 0), PV.sc (.int .u8 0), PV.sc (.int .u8 0), PV.sc (.int .u8 0), PV.sc (.int .u8 0), PV.sc (.int .u8 0), PV.sc (.int .u8 0), PV.sc (.int .u8 0), PV.sc (.int .u8 0)]) && decide ((List.take 64 key ++ List.drop (0 + min key.length 64) [PV.sc (.int .u8 0), PV.sc (.int .u8 0), PV.sc (.int .u8 0), PV.sc (.int .u8 0), PV.sc (.int .u8 0), PV.sc (.int .u8 0), PV.sc (.int .u8 0), PV.sc (.int .u8 0), PV.sc (.int .u8 0), PV.sc (.int .u8 0), PV.sc (.int .u8 0), PV.sc (.int .u8 0), PV.sc (.int .u8 0), PV.sc (.int .u8 0), PV.sc (.int .u8 0), PV.sc (.int .u8 0), PV.sc (.int .u8 0), PV.sc (.int .u8 0), PV.sc (.int .u8 0), PV.sc (.int .u8 0), PV.sc (.int .u8 0), PV.sc (.int .u8 0), PV.sc (.int .u8 0), PV.sc (.int .u8 0), PV.sc (.int .u8 0), PV.sc (.int .u8 0), PV.sc (.int .u8 0), PV.sc (.int .u8 0), PV.sc (.int .u8 0), PV.sc (.int .u8 0), PV.sc (.int .u8 0), PV.sc (.int .u8 0), PV.sc (.int .u8 0), PV.sc (.int .u8 0), PV.sc (.int .u8 0), PV.sc (.int .u8 0), PV.sc (.int .u8 0), PV.sc (.int .u8 0), PV.sc (.int .u8 0), PV.sc (.int .u8 0), PV.sc (.int .u8 0), PV.sc (.int .u8 0), PV.sc (.int .u8 0), PV.sc (.int .u8 0), PV.sc (.int .u8 0), PV.sc (.int .u8 0), PV.sc (.int .u8 0), PV.sc (.int .u8 0), PV.sc (.int .u8 0), PV.sc (.int .u8 0), PV.sc (.int .u8 0), PV.sc (.int .u8 0), PV.sc (.int .u8 0), PV.sc (.int .u8 0), PV.sc (.int .u8 0), PV.sc (.int .u8 0), PV.sc (.int .u8 0), PV.sc (.int .u8 0), PV.sc (.int .u8 0), PV.sc (.int .u8 0), PV.sc (.int .u8 0), PV.sc (.int .u8 0), PV.sc (.int .u8 0), PV.sc (.int .u8 0)]).length = 64) && true then bif decide (0 + parts.length = parts.length) && decide (parts.length ≤ 1000000000) then bif parts.all (PV.isRo 5) && decide ((PV.ro 5 false false (pu IntKind.u8 (xorB (ints (List.take 64 key ++ List.drop (0 + min key.length 64) [PV.sc (.int .u8 0), PV.sc (.int .u8 0), PV.sc (.int .u8 0), PV.sc (.int .u8 0), PV.sc (.int .u8 0), PV.sc (.int .u8 0), PV.sc (.int .u8 0), PV.sc (.int .u8 0), PV.sc (.int .u8 0), PV.sc (.int .u8 0), PV.sc (.int .u8 0), PV.sc (.int .u8 0), PV.sc (.int .u8 0), PV.sc (.int .u8 0), PV.sc (.int .u8 0), PV.sc (.int .u8 0), PV.sc (.int .u8 0), PV.sc (.int .u8 0), PV.sc (.int .u8 0), PV.sc (.int .u8 0), PV.sc (.int .u8 0), PV.sc (.int .u8 0), PV.sc (.int .u8 0), PV.sc (.int .u8 0), PV.sc (.int .u8 0), PV.sc (.int .u8 0), PV.sc (.int .u8 0), PV.sc (.int .u8 0), PV.sc (.int .u8 0), PV.sc (.int .u8 0), PV.sc (.int .u8 0), PV.sc (.int .u8 0), PV.sc (.int .u8 0), PV.sc (.int .u8 0), PV.sc (.int .u8 0), PV.sc (.int .u8 0), PV.sc (.int .u8 0), PV.sc (.int .u8 0), PV.sc (.int .u8 0), PV.sc (.int .u8 0), PV.sc (.int .u8 0), PV.sc (.int .u8 0), PV.sc (.int .u8 0), PV.sc (.int .u8 0), PV.sc (.int .u8 0), PV.sc (.int .u8 0), PV.sc (.int .u8 0), PV.sc (.int .u8 0), PV.sc (.int .u8 0), PV.sc (.int .u8 0), PV.sc (.int .u8 0), PV.sc (.int .u8 0), PV.sc (.int .u8 0), PV.sc (.int .u8 0), PV.sc (.int .u8 0), PV.sc (.int .u8 0), PV.sc (.int .u8 0), PV.sc (.int .u8 0), PV.sc (.int .u8 0), PV.sc (.int .u8 0), PV.sc (.int .u8 0), PV.sc (.int .u8 0), PV.sc (.int .u8 0), PV.sc (.int .u8 0)])) 54)) :: parts).length ≤ 140737488355328) && (allInt IntKind.u8 (flat (PV.ro 5 false false (pu IntKind.u8 (xorB (ints (List.take 64 key ++ List.drop (0 + min key.length 64) [PV.sc (.int .u8 0), PV.sc (.int .u8 0), PV.sc (.int .u8 0), PV.sc (.int .u8 0), PV.sc (.int .u8 0), PV.sc (.int .u8 0), PV.sc (.int .u8 0), PV.sc (.int .u8 0), PV.sc (.int .u8 0), PV.sc (.int .u8 0), PV.sc (.int .u8 0), PV.sc (.int .u8 0), PV.sc (.int .u8 0), PV.sc (.int .u8 0), PV.sc (.int .u8 0), PV.sc (.int .u8 0), PV.sc (.int .u8 0), PV.sc (.int .u8 0), PV.sc (.int .u8 0), PV.sc (.int .u8 0), PV.sc (.int .u8 0), PV.sc (.int .u8 0), PV.sc (.int .u8 0), PV.sc (.int .u8 0), PV.sc (.int .u8 0), PV.sc (.int .u8 0), PV.sc (.int .u8 0), PV.sc (.int .u8 0), PV.sc (.int .u8 0), PV.sc (.int .u8 0), PV.sc (.int .u8 0), PV.sc (.int .u8 0), PV.sc (.int .u8 0), PV.sc (.int .u8 0), PV.sc (.int .u8 0), PV.sc (.int .u8 0), PV.sc (.int .u8 0), PV.sc (.int .u8 0), PV.sc (.int .u8 0), PV.sc (.int .u8 0), PV.sc (.int .u8 0), PV.sc (.int .u8 0), PV.sc (.int .u8 0), PV.sc (.int .u8 0), PV.sc (.int .u8 0), PV.sc (.int .u8 0), PV.sc (.int .u8 0), PV.sc (.int .u8 0), PV.sc (.int .u8 0), PV.sc (.int .u8 0), PV.sc (.int .u8 0), PV.sc (.int .u8 0), PV.sc (.int .u8 0), PV.sc (.int .u8 0), PV.sc (.int .u8 0), PV.sc (.int .u8 0), PV.sc (.int .u8 0), PV.sc (.int .u8 0), PV.sc (.int .u8 0), PV.sc (.int .u8 0), PV.sc (.int .u8 0), PV.sc (.int .u8 0), PV.sc (.int .u8 0), PV.sc (.int .u8 0)])) 54)) :: parts)) && decide ((flat (PV.ro 5 false false (pu IntKind.u8 (xorB (ints (List.take 64 key ++ List.drop (0 + min key.length 64) [PV.sc (.int .u8 0), PV.sc (.int .u8 0), PV.sc (.int .u8 0), PV.sc (.int .u8 0), PV.sc (.int .u8 0), PV.sc (.int .u8 0), PV.sc (.int .u8 0), PV.sc (.int .u8 0), PV.sc (.int .u8 0), PV.sc (.int .u8 0), PV.sc (.int .u8 0), PV.sc (.int .u8 0), PV.sc (.int .u8 0), PV.sc (.int .u8 0), PV.sc (.int .u8 0), PV.sc (.int .u8 0), PV.sc (.int .u8 0), PV.sc (.int .u8 0), PV.sc (.int .u8 0), PV.sc (.int .u8 0), PV.sc (.int .u8 0), PV.sc (.int .u8 0), PV.sc (.int .u8 0), PV.sc (.int .u8 0), PV.sc (.int .u8 0), PV.sc (.int .u8 0), PV.sc (.int .u8 0), PV.sc (.int .u8 0), PV.sc (.int .u8 0), PV.sc (.int .u8 0), PV.sc (.int .u8 0), PV.sc (.int .u8 0), PV.sc (.int .u8 0), PV.sc (.int .u8 0), PV.sc (.int .u8 0), PV.sc (.int .u8 0), PV.sc (.int .u8 0), PV.sc (.int .u8 0), PV.sc (.int .u8 0), PV.sc (.int .u8 0), PV.sc (.int .u8 0), PV.sc (.int .u8 0), PV.sc (.int .u8 0), PV.sc (.int .u8 0), PV.sc (.int .u8 0), PV.sc (.int .u8 0), PV.sc (.int .u8 0), PV.sc (.int .u8 0), PV.sc (.int .u8 0), PV.sc (.int .u8 0), PV.sc (.int .u8 0), PV.sc (.int .u8 0), PV.sc (.int .u8 0), PV.sc (.int .u8 0), PV.sc (.int .u8 0), PV.sc (.int .u8 0), PV.sc (.int .u8 0), PV.sc (.int .u8 0), PV.sc (.int .u8 0), PV.sc (.int .u8 0), PV.sc (.int .u8 0), PV.sc (.int .u8 0), PV.sc (.int .u8 0), PV.sc (.int .u8 0)])) 54)) :: parts)).length ≤ 140737488355000)) then bif allInt IntKind.u8 (List.take 64 key ++ List.drop (0 + min key.length 64) [PV.sc (.int .u8 0), PV.sc (.int .u8 0), PV.sc (.int .u8 0), PV.sc (.int .u8 0), PV.sc (.int .u8 0), PV.sc (.int .u8 0), PV.sc (.int .u8 0), PV.sc (.int .u8 0), PV.sc (.int .u8 0), PV.sc (.int .u8 0), PV.sc (.int .u8 0), PV.sc (.int .u8 0), PV.sc (.int .u8 0), PV.sc (.int .u8 0), PV.sc (.int .u8 0), PV.sc (.int .u8 0), PV.sc (.int .u8 0), PV.sc (.int .u8 0), PV.sc (.int .u8 0), PV.sc (.int .u8 0), PV.sc (.int .u8 0), PV.sc (.int .u8 0), PV.sc (.int .u8 0), PV.sc (.int .u8 0), PV.sc (.int .u8 0), PV.sc (.int .u8 0), PV.sc (.int .u8 0), PV.sc (.int .u8 0), PV.sc (.int .u8 0), PV.sc (.int .u8 0), PV.sc (.int .u8 0), PV.sc (.int .u8 0), PV.sc (.int .u8 0), PV.sc (.int .u8 0), PV.sc (.int .u8 0), PV.sc (.int .u8 0), PV.sc (.int .u8 0), PV.sc (.int .u8 0), PV.sc (.int .u8 0), PV.sc (.int .u8 0), PV.sc (.int .u8 0), PV.sc (.int .u8 0), PV.sc (.int .u8 0), PV.sc (.int .u8 0), PV.sc (.int .u8 0), PV.sc (.int .u8 0), PV.sc (.int .u8 0), PV.sc (.int .u8 0), PV.sc (.int .u8 0), PV.sc (.int .u8 0), PV.sc (.int .u8 0), PV.sc (.int .u8 0), PV.sc (.int .u8 0), PV.sc (.int .u8 0), PV.sc (.int .u8 0), PV.sc (.int .u8 0), PV.sc (.int .u8 0), PV.sc (.int .u8 0), PV.sc (.int .u8 0), PV.sc (.int .u8 0), PV.sc (.int .u8 0), PV.sc (.int .u8 0), PV.sc (.int .u8 0), PV.sc (.int .u8 0)]) && decide ((List.take 64 key ++ List.drop (0 + min key.length 64) [PV.sc (.int .u8 0), PV.sc (.int .u8 0), PV.sc (.int .u8 0), PV.sc (.int .u8 0), PV.sc (.int .u8 0), PV.sc (.int .u8 0), PV.sc (.int .u8 0), PV.sc (.int .u8 0), PV.sc (.int .u8 0), PV.sc (.int .u8 0), PV.sc (.int .u8 0), PV.sc (.int .u8 0), PV.sc (.int .u8 0), PV.sc (.int .u8 0), PV.sc (.int .u8 0), PV.sc (.int .u8 0), PV.sc (.int .u8 0), PV.sc (.int .u8 0), PV.sc (.int .u8 0), PV.sc (.int .u8 0), PV.sc (.int .u8 0), PV.sc (.int .u8 0), PV.sc (.int .u8 0), PV.sc (.int .u8 0), PV.sc (.int .u8 0), PV.sc (.int .u8 0), PV.sc (.int .u8 0), PV.sc (.int .u8 0), PV.sc (.int .u8 0), PV.sc (.int .u8 0), PV.sc (.int .u8 0), PV.sc (.int .u8 0), PV.sc (.int .u8 0), PV.sc (.int .u8 0), PV.sc (.int .u8 0), PV.sc (.int .u8 0), PV.sc (.int .u8 0), PV.sc (.int .u8 0), PV.sc (.int .u8 0), PV.sc (.int .u8 0), PV.sc (.int .u8 0), PV.sc (.int .u8 0), PV.sc (.int .u8 0), PV.sc (.int .u8 0), PV.sc (.int .u8 0), PV.sc (.int .u8 0), PV.sc (.int .u8 0), PV.sc (.int .u8 0), PV.sc (.int .u8 0), PV.sc (.int .u8 0), PV.sc (.int .u8 0), PV.sc (.int .u8 0), PV.sc (.int .u8 0), PV.sc (.int .u8 0), PV.sc (.int .u8 0), PV.sc (.int .u8 0), PV.sc (.int .u8 0), PV.sc (.int .u8 0), PV.sc (.int .u8 0), PV.sc (.int .u8 0), PV.sc (.int .u8 0), PV.sc (.int .u8 0), PV.sc (.int .u8 0), PV.sc (.int .u8 0)]).length = 64) && true then bif allInt IntKind.u8 (flat [PV.ro 5 false false (pu IntKind.u8 (xorB (ints (List.take 64 key ++ List.drop (0 + min key.length 64) [PV.sc (.int .u8 0), PV.sc (.int .u8 0), PV.sc (.int .u8 0), PV.sc (.int .u8 0), PV.sc (.int .u8 0), PV.sc (.int .u8 0), PV.sc (.int .u8 0), PV.sc (.int .u8 0), PV.sc (.int .u8 0), PV.sc (.int .u8 0), PV.sc (.int .u8 0), PV.sc (.int .u8 0), PV.sc (.int .u8 0), PV.sc (.int .u8 0), PV.sc (.int .u8 0), PV.sc (.int .u8 0), PV.sc (.int .u8 0), PV.sc (.int .u8 0), PV.sc (.int .u8 0), PV.sc (.int .u8 0), PV.sc (.int .u8 0), PV.sc (.int .u8 0), PV.sc (.int .u8 0), PV.sc (.int .u8 0), PV.sc (.int .u8 0), PV.sc (.int .u8 0), PV.sc (.int .u8 0), PV.sc (.int .u8 0), PV.sc (.int .u8 0), PV.sc (.int .u8 0), PV.sc (.int .u8 0), PV.sc (.int .u8 0), PV.sc (.int .u8 0), PV.sc (.int .u8 0), PV.sc (.int .u8 0), PV.sc (.int .u8 0), PV.sc (.int .u8 0), PV.sc (.int .u8 0), PV.sc (.int .u8 0), PV.sc (.int .u8 0), PV.sc (.int .u8 0), PV.sc (.int .u8 0), PV.sc (.int .u8 0), PV.sc (.int .u8 0), PV.sc (.int .u8 0), PV.sc (.int .u8 0), PV.sc (.int .u8 0), PV.sc (.int .u8 0), PV.sc (.int .u8 0), PV.sc (.int .u8 0), PV.sc (.int .u8 0), PV.sc (.int .u8 0), PV.sc (.int .u8 0), PV.sc (.int .u8 0), PV.sc (.int .u8 0), PV.sc (.int .u8 0), PV.sc (.int .u8 0), PV.sc (.int .u8 0), PV.sc (.int .u8 0), PV.sc (.int .u8 0), PV.sc (.int .u8 0), PV.sc (.int .u8 0), PV.sc (.int .u8 0), PV.sc (.int .u8 0)])) 92)), PV.ro 5 false false (List.take 32 (pu IntKind.u8 (sumP (ints (flat (PV.ro 5 false false (pu IntKind.u8 (xorB (ints (List.take 64 key ++ List.drop (0 + min key.length 64) [PV.sc (.int .u8 0), PV.sc (.int .u8 0), PV.sc (.int .u8 0), PV.sc (.int .u8 0), PV.sc (.int .u8 0), PV.sc (.int .u8 0), PV.sc (.int .u8 0), PV.sc (.int .u8 0), PV.sc (.int .u8 0), PV.sc (.int .u8 0), PV.sc (.int .u8 0), PV.sc (.int .u8 0), PV.sc (.int .u8 0), PV.sc (.int .u8 0), PV.sc (.int .u8 0), PV.sc (.int .u8 0), PV.sc (.int .u8 0), PV.sc (.int .u8 0), PV.sc (.int .u8 0), PV.sc (.int .u8 0), PV.sc (.int .u8 0), PV.sc (.int .u8 0), PV.sc (.int .u8 0), PV.sc (.int .u8 0), PV.sc (.int .u8 0), PV.sc (.int .u8 0), PV.sc (.int .u8 0), PV.sc (.int .u8 0), PV.sc (.int .u8 0), PV.sc (.int .u8 0), PV.sc (.int .u8 0), PV.sc (.int .u8 0), PV.sc (.int .u8 0), PV.sc (.int .u8 0), PV.sc (.int .u8 0), PV.sc (.int .u8 0), PV.sc (.int .u8 0), PV.sc (.int .u8 0), PV.sc (.int .u8 0), PV.sc (.int .u8 0), PV.sc (.int .u8 0), PV.sc (.int .u8 0), PV.sc (.int .u8 0), PV.sc (.int .u8 0), PV.sc (.int .u8 0), PV.sc (.int .u8 0), PV.sc (.int .u8 0), PV.sc (.int .u8 0), PV.sc (.int .u8 0), PV.sc (.int .u8 0), PV.sc (.int .u8 0), PV.sc (.int .u8 0), PV.sc (.int .u8 0), PV.sc (.int .u8 0), PV.sc (.int .u8 0), PV.sc (.int .u8 0), PV.sc (.int .u8 0), PV.sc (.int .u8 0), PV.sc (.int .u8 0), PV.sc (.int .u8 0), PV.sc (.int .u8 0), PV.sc (.int .u8 0), PV.sc (.int .u8 0), PV.sc (.int .u8 0)])) 54)) :: parts))))))]) && decide ((flat [PV.ro 5 false false (pu IntKind.u8 (xorB (ints (List.take 64 key ++ List.drop (0 + min key.length 64) [PV.sc (.int .u8 0), PV.sc (.int .u8 0), PV.sc (.int .u8 0), PV.sc (.int .u8 0), PV.sc (.int .u8 0), PV.sc (.int .u8 0), PV.sc (.int .u8 0), PV.sc (.int .u8 0), PV.sc (.int .u8 0), PV.sc (.int .u8 0), PV.sc (.int .u8 0), PV.sc (.int .u8 0), PV.sc (.int .u8 0), PV.sc (.int .u8 0), PV.sc (.int .u8 0), PV.sc (.int .u8 0), PV.sc (.int .u8 0), PV.sc (.int .u8 0), PV.sc (.int .u8 0), PV.sc (.int .u8 0), PV.sc (.int .u8 0), PV.sc (.int .u8 0), PV.sc (.int .u8 0), PV.sc (.int .u8 0), PV.sc (.int .u8 0), PV.sc (.int .u8 0), PV.sc (.int .u8 0), PV.sc (.int .u8 0), PV.sc (.int .u8 0), PV.sc (.int .u8 0), PV.sc (.int .u8 0), PV.sc (.int .u8 0), PV.sc (.int .u8 0), PV.sc (.int .u8 0), PV.sc (.int .u8 0), PV.sc (.int .u8 0), PV.sc (.int .u8 0), PV.sc (.int .u8 0), PV.sc (.int .u8 0), PV.sc (.int .u8 0), PV.sc (.int .u8 0), PV.sc (.int .u8 0), PV.sc (.int .u8 0), PV.sc (.int .u8 0), PV.sc (.int .u8 0), PV.sc (.int .u8 0), PV.sc (.int .u8 0), PV.sc (.int .u8 0), PV.sc (.int .u8 0), PV.sc (.int .u8 0), PV.sc (.int .u8 0), PV.sc (.int .u8 0), PV.sc (.int .u8 0), PV.sc (.int .u8 0), PV.sc (.int .u8 0), PV.sc (.int .u8 0), PV.sc (.int .u8 0), PV.sc (.int .u8 0), PV.sc (.int .u8 0), PV.sc (.int .u8 0), PV.sc (.int .u8 0), PV.sc (.int .u8 0), PV.sc (.int .u8 0), PV.sc (.int .u8 0)])) 92)), PV.ro 5 false false (List.take 32 (pu IntKind.u8 (sumP (ints (flat (PV.ro 5 false false (pu IntKind.u8 (xorB (ints (List.take 64 key ++ List.drop (0 + min key.length 64) [PV.sc (.int .u8 0), PV.sc (.int .u8 0), PV.sc (.int .u8 0), PV.sc (.int .u8 0), PV.sc (.int .u8 0), PV.sc (.int .u8 0), PV.sc (.int .u8 0), PV.sc (.int .u8 0), PV.sc (.int .u8 0), PV.sc (.int .u8 0), PV.sc (.int .u8 0), PV.sc (.int .u8 0), PV.sc (.int .u8 0), PV.sc (.int .u8 0), PV.sc (.int .u8 0), PV.sc (.int .u8 0), PV.sc (.int .u8 0), PV.sc (.int .u8 0), PV.sc (.int .u8 0), PV.sc (.int .u8 0), PV.sc (.int .u8 0), PV.sc (.int .u8 0), PV.sc (.int .u8 0), PV.sc (.int .u8 0), PV.sc (.int .u8 0), PV.sc (.int .u8 0), PV.sc (.int .u8 0), PV.sc (.int .u8 0), PV.sc (.int .u8 0), PV.sc (.int .u8 0), PV.sc (.int .u8 0), PV.sc (.int .u8 0), PV.sc (.int .u8 0), PV.sc (.int .u8 0), PV.sc (.int .u8 0), PV.sc (.int .u8 0), PV.sc (.int .u8 0), PV.sc (.int .u8 0), PV.sc (.int .u8 0), PV.sc (.int .u8 0), PV.sc (.int .u8 0), PV.sc (.int .u8 0), PV.sc (.int .u8 0), PV.sc (.int .u8 0), PV.sc (.int .u8 0), PV.sc (.int .u8 0), PV.sc (.int .u8 0), PV.sc (.int .u8 0), PV.sc (.int .u8 0), PV.sc (.int .u8 0), PV.sc (.int .u8 0), PV.sc (.int .u8 0), PV.sc (.int .u8 0), PV.sc (.int .u8 0), PV.sc (.int .u8 0), PV.sc (.int .u8 0), PV.sc (.int .u8 0), PV.sc (.int .u8 0), PV.sc (.int .u8 0), PV.sc (.int .u8 0), PV.sc (.int .u8 0), PV.sc (.int .u8 0), PV.sc (.int .u8 0), PV.sc (.int .u8 0)])) 54)) :: parts))))))]).length ≤ 140737488355000) then k (Res.mk (PV.ar 37 (pu IntKind.u8 (sumP (ints (flat [PV.ro 5 false false (pu IntKind.u8 (xorB (ints (List.take 64 key ++ List.drop (0 + min key.length 64) [PV.sc (.int .u8 0), PV.sc (.int .u8 0), PV.sc (.int .u8 0), PV.sc (.int .u8 0), PV.sc (.int .u8 0), PV.sc (.int .u8 0), PV.sc (.int .u8 0), PV.sc (.int .u8 0), PV.sc (.int .u8 0), PV.sc (.int .u8 0), PV.sc (.int .u8 0), PV.sc (.int .u8 0), PV.sc (.int .u8 0), PV.sc (.int .u8 0), PV.sc (.int .u8 0), PV.sc (.int .u8 0), PV.sc (.int .u8 0), PV.sc (.int .u8 0), PV.sc (.int .u8 0), PV.sc (.int .u8 0), PV.sc (.int .u8 0), PV.sc (.int .u8 0), PV.sc (.int .u8 0), PV.sc (.int .u8 0), PV.sc (.int .u8 0), PV.sc (.int .u8 0), PV.sc (.int .u8 0), PV.sc (.int .u8 0), PV.sc (.int .u8 0), PV.sc (.int .u8 0), PV.sc (.int .u8 0), PV.sc (.int .u8 0), PV.sc (.int .u8 0), PV.sc (.int .u8 0), PV.sc (.int .u8 0), PV.sc (.int .u8 0), PV.sc (.int .u8 0), PV.sc (.int .u8 0), PV.sc (.int .u8 0), PV.sc (.int .u8 0), PV.sc (.int .u8 0), PV.sc (.int .u8 0), PV.sc (.int .u8 0), PV.sc (.int .u8 0), PV.sc (.int .u8 0), PV.sc (.int .u8 0), PV.sc (.int .u8 0), PV.sc (.int .u8 0), PV.sc (.int .u8 0), PV.sc (.int .u8 0), PV.sc (.int .u8 0), PV.sc (.int .u8 0), PV.sc (.int .u8 0), PV.sc (.int .u8 0), PV.sc (.int .u8 0), PV.sc (.int .u8 0), PV.sc (.int .u8 0), PV.sc (.int .u8 0), PV.sc (.int .u8 0), PV.sc (.int .u8 0), PV.sc (.int .u8 0), PV.sc (.int .u8 0), PV.sc (.int .u8 0), PV.sc (.int .u8 0)])) 92)), PV.ro 5 false false (List.take 32 (pu IntKind.u8 (sumP (ints (flat (PV.ro 5 false false (pu IntKind.u8 (xorB (ints (List.take 64 key ++ List.drop (0 + min key.length 64) [PV.sc (.int .u8 0), PV.sc (.int .u8 0), PV.sc (.int .u8 0), PV.sc (.int .u8 0), PV.sc (.int .u8 0), PV.sc (.int .u8 0), PV.sc (.int .u8 0), PV.sc (.int .u8 0), PV.sc (.int .u8 0), PV.sc (.int .u8 0), PV.sc (.int .u8 0), PV.sc (.int .u8 0), PV.sc (.int .u8 0), PV.sc (.int .u8 0), PV.sc (.int .u8 0), PV.sc (.int .u8 0), PV.sc (.int .u8 0), PV.sc (.int .u8 0), PV.sc (.int .u8 0), PV.sc (.int .u8 0), PV.sc (.int .u8 0), PV.sc (.int .u8 0), PV.sc (.int .u8 0), PV.sc (.int .u8 0), PV.sc (.int .u8 0), PV.sc (.int .u8 0), PV.sc (.int .u8 0), PV.sc (.int .u8 0), PV.sc (.int .u8 0), PV.sc (.int .u8 0), PV.sc (.int .u8 0), PV.sc (.int .u8 0), PV.sc (.int .u8 0), PV.sc (.int .u8 0), PV.sc (.int .u8 0), PV.sc (.int .u8 0), PV.sc (.int .u8 0), PV.sc (.int .u8 0), PV.sc (.int .u8 0), PV.sc (.int .u8 0), PV.sc (.int .u8 0), PV.sc (.int .u8 0), PV.sc (.int .u8 0), PV.sc (.int .u8 0), PV.sc (.int .u8 0), PV.sc (.int .u8 0), PV.sc (.int .u8 0), PV.sc (.int .u8 0), PV.sc (.int .u8 0), PV.sc (.int .u8 0), PV.sc (.int .u8 0), PV.sc (.int .u8 0), PV.sc (.int .u8 0), PV.sc (.int .u8 0), PV.sc (.int .u8 0), PV.sc (.int .u8 0), PV.sc (.int .u8 0), PV.sc (.int .u8 0), PV.sc (.int .u8 0), PV.sc (.int .u8 0), PV.sc (.int .u8 0), PV.sc (.int .u8 0), PV.sc (.int .u8 0), PV.sc (.int .u8 0)])) 54)) :: parts))))))]))))) [] []) else none else none else none else none else none else none
theorem e80 (f : Nat) (key_z : Bool) (key_f : Bool) (key : List PV) (parts_z : Bool) (parts_f : Bool) (parts : List PV) (k : Res → Option Res) : evFn tau F80 Try.f80 (Try.f80.body.get!) an80 [.ro] 0 [.ro 5 key_z key_f key, .ro 29 parts_z parts_f parts] [] k = g80 f key_z key_f key parts_z parts_f parts k := by kernel_rfl
theorem it80 (f : Nat) : items (Try.f80.body.get!) an80 = [] := by kernel_rfl
theorem ia80 (f : Nat) : ∀ q ∈ items (Try.f80.body.get!) an80, q.Ok tau Try.prog 0 := by
  rw [it80 f]; intro q hq; cases hq
theorem fo80 : Try.prog.funcs[80]? = some Try.f80 := by kernel_rfl
theorem bo80 : Try.f80.body = some (Try.f80.body.get!) := by kernel_rfl
theorem en80 : Enters Try.prog 80 := enters_of fo80 (by kernel_rfl) bo80
noncomputable def run80 : List PV → List Ent → (Res → Option Res) → Option Res
  | [.ro 5 key_z key_f key, .ro 29 parts_z parts_f parts], [], k => g80 0 key_z key_f key parts_z parts_f parts k
  | _, _, _ => none
noncomputable def s80 : Sig := { own := [], run := run80 }
theorem ok80 : CallOk tau Try.prog 80 s80 := fn_ok tabOk F80_ok mixed fo80 bo80 an80 [.ro] 0 [] run80 (ia80 0) fun xs es k res hr => by
  unfold run80 at hr
  split at hr
  · exact ⟨rfl, 0, (e80 0 _ _ _ _ _ _  _).trans hr⟩
  · cases hr
end Go.Proofs.Ytcklhipdldpkhaa.Rx

-- FN hmac.Mac
/- A key's sign of all parts. Own work. -/
namespace Go.Proofs.Ytcklhipdldpkhaa.Rx
open Go
set_option linter.unusedVariables false
set_option linter.unusedSimpArgs false
set_option maxRecDepth 100000
set_option maxHeartbeats 1000000
theorem ints_append (a b : List PV) : ints (a ++ b) = ints a ++ ints b := by simp [ints]
@[simp] theorem ints_nil : ints [] = [] := rfl
/-- a key, with noughts behind it -/
def padK (s : List Int) : List Int := s ++ List.replicate (64 - s.length) 0
def keyB (key : List Int) : List Int := if key.length > 64 then padK (sumP key) else padK key
def macP0 (key text : List Int) : List Int := sumP (xorB (keyB key) 92 ++ sumP (xorB (keyB key) 54 ++ text))
noncomputable def macP : List Int → List Int → List Int := hid macP0
theorem macP_eq (key text : List Int) : macP key text = macP0 key text := by rw [macP, hid_eq]
theorem macP_length (key text : List Int) : (macP key text).length = 32 := by rw [macP_eq]; exact sumP_length _
theorem keyB_length (key : List Int) : (keyB key).length = 64 := by
  unfold keyB padK
  split
  · rw [List.length_append, sumP_length, List.length_replicate]
  · rw [List.length_append, List.length_replicate]; omega
def x54 (kb : List PV) : PV := .ro 5 false false (pu .u8 (xorB (ints kb) 54))
def x92 (kb : List PV) : PV := .ro 5 false false (pu .u8 (xorB (ints kb) 92))
def t32 (l : List PV) : PV := .ro 5 false false (List.take 32 (pu .u8 (sumP (ints (flat l)))))
def kbG (src : List PV) : List PV := [] ++ List.take 64 src ++ List.drop (0 + min src.length 64) (pu .u8 (List.replicate 64 0))
def macForm (pz : Bool) (parts kb : List PV) (k : Res → Option Res) : Option Res :=
  bif pz then
    bif allInt .u8 kb && decide (kb.length = 64) && true then
      bif allInt .u8 (flat [x54 kb]) && decide ((flat [x54 kb]).length ≤ 140737488355000) then
        bif allInt .u8 kb && decide (kb.length = 64) && true then
          bif allInt .u8 (flat [x92 kb, t32 [x54 kb]]) && decide ((flat [x92 kb, t32 [x54 kb]]).length ≤ 140737488355000) then
            k ⟨.ar 37 (pu .u8 (sumP (ints (flat [x92 kb, t32 [x54 kb]])))), [], []⟩
          else none
        else none
      else none
    else none
  else bif roomy (0 + parts.length) 24 && true then
    bif allInt .u8 kb && decide (kb.length = 64) && true then
      bif decide (0 + parts.length = ([] ++ parts).length) && decide (([] ++ parts).length ≤ 1000000000) then
        bif ([] ++ parts).all (PV.isRo 5) && decide ((x54 kb :: ([] ++ parts)).length ≤ 140737488355328) && (allInt .u8 (flat (x54 kb :: ([] ++ parts))) && decide ((flat (x54 kb :: ([] ++ parts))).length ≤ 140737488355000)) then
          bif allInt .u8 kb && decide (kb.length = 64) && true then
            bif allInt .u8 (flat [x92 kb, t32 (x54 kb :: ([] ++ parts))]) && decide ((flat [x92 kb, t32 (x54 kb :: ([] ++ parts))]).length ≤ 140737488355000) then
              k ⟨.ar 37 (pu .u8 (sumP (ints (flat [x92 kb, t32 (x54 kb :: ([] ++ parts))])))), [], []⟩
            else none
          else none
        else none
      else none
    else none
  else none
theorem g80_form (kz kf : Bool) (key : List PV) (pz pf : Bool) (parts : List PV) (k : Res → Option Res) : g80 0 kz kf key pz pf parts k =
    (bif decide (zi key.length > 64) then
      bif allInt .u8 (flat [.ro 5 kz kf key]) && decide ((flat [.ro 5 kz kf key]).length ≤ 140737488355000) then
        macForm pz parts (kbG (List.take 32 (pu .u8 (sumP (ints (flat [.ro 5 kz kf key])))))) k
      else none
    else macForm pz parts (kbG key) k) := by kernel_rfl
theorem kbG_pu (s : List Int) (h : s.length ≤ 64) : kbG (pu .u8 s) = pu .u8 (padK s) := by
  unfold kbG padK
  rw [pu_length, show 0 + min s.length 64 = s.length from by omega, pu_drop, List.drop_replicate, List.take_of_length_le (by simpa using h), List.nil_append, ← pu_append]
theorem macForm_eq (K : List Int) (hK : K.length = 64) (pz : Bool) (parts : List PV) (hz : pz = true → parts = []) (h1 : parts.all (PV.isRo 5) = true) (h2 : parts.length ≤ 1000000) (h3 : allInt .u8 (flat parts) = true) (h4 : (flat parts).length ≤ 1000000000) (k : Res → Option Res) :
    macForm pz parts (pu .u8 K) k = k ⟨.ar 37 (pu .u8 (sumP (xorB K 92 ++ sumP (xorB K 54 ++ ints (flat parts))))), [], []⟩ := by
  have hk : (allInt .u8 (pu .u8 K) && decide ((pu .u8 K).length = 64) && true) = true := by simp [hK]
  have e54 : x54 (pu .u8 K) = .ro 5 false false (pu .u8 (xorB K 54)) := by simp [x54]
  have e92 : x92 (pu .u8 K) = .ro 5 false false (pu .u8 (xorB K 92)) := by simp [x92]
  have hS : ∀ l : List Int, List.take 32 (pu .u8 (sumP l)) = pu .u8 (sumP l) := fun l => List.take_of_length_le (by simp [sumP_length])
  cases pz with
  | true =>
    have := hz rfl; subst this
    have et : t32 [x54 (pu .u8 K)] = .ro 5 false false (pu .u8 (sumP (xorB K 54))) := by simp [t32, e54, PV.els, hS]
    unfold macForm
    rw [cond_true, bif_t hk, bif_t (by simp [e54, PV.els, hK]), bif_t hk, et, e92, bif_t (by simp [PV.els, hK, allInt_append, sumP_length])]
    simp [PV.els, ints_append]
  | false =>
    have et : t32 (x54 (pu .u8 K) :: ([] ++ parts)) = .ro 5 false false (pu .u8 (sumP (xorB K 54 ++ ints (flat parts)))) := by
      rw [List.nil_append, t32, e54, flat_cons, hS]
      simp only [PV.els]
      rw [ints_append, ints_pu]
    unfold macForm
    have hp : (pu IntKind.u8 K).length = 64 := by simp [hK]
    rw [cond_false, bif_t (by simp [roomy]; omega), bif_t hk, bif_t (by simp; omega), bif_t, bif_t hk, et, e92, bif_t (by simp [PV.els, hK, allInt_append, sumP_length])]
    · simp [PV.els, ints_append]
    · rw [e54]
      simp only [List.nil_append, flat_cons, PV.els, h1, allInt_append, allInt_pu, h3, List.length_cons, List.length_append, pu_length, xorB_length, hK, Bool.true_and, Bool.and_true, Bool.and_eq_true, decide_eq_true_eq]
      omega
noncomputable def run80' : List PV → List Ent → (Res → Option Res) → Option Res
  | [.ro 5 kz kf key, .ro 29 pz pf parts], [], k =>
    bif (allInt .u8 key && decide (key.length ≤ 1000000000)) && ((parts.all (PV.isRo 5) && decide (parts.length ≤ 1000000)) && (allInt .u8 (flat parts) && decide ((flat parts).length ≤ 1000000000))) && (!pz || parts.isEmpty) then
      k ⟨.ar 37 (pu .u8 (macP (ints key) (ints (flat parts)))), [], []⟩ else none
  | _, _, _ => none
noncomputable def s80' : Sig := { own := [], run := run80' }
theorem g80_eq (kz kf : Bool) (key : List PV) (pz pf : Bool) (parts : List PV) (k : Res → Option Res) (a1 : allInt .u8 key = true) (a2 : key.length ≤ 1000000000) (h1 : parts.all (PV.isRo 5) = true) (h2 : parts.length ≤ 1000000) (h3 : allInt .u8 (flat parts) = true) (h4 : (flat parts).length ≤ 1000000000) (hz : pz = true → parts = []) :
    g80 0 kz kf key pz pf parts k = k ⟨.ar 37 (pu .u8 (macP (ints key) (ints (flat parts)))), [], []⟩ := by
  rw [g80_form, macP_eq, macP0]
  have hf : flat [.ro 5 kz kf key] = key := by simp [PV.els]
  have hi := pu_ints a1
  by_cases hc : key.length > 64
  · rw [bif_t (by simp [zi]; omega), hf, bif_t (by simp [a1]; omega), List.take_of_length_le (by simp [sumP_length]), kbG_pu _ (by rw [sumP_length]; omega),
      macForm_eq _ (by rw [← keyB_length (ints key), keyB, if_pos (by simpa using hc)]) pz parts hz h1 h2 h3 h4, keyB, if_pos (by simpa using hc)]
  · have hl : (ints key).length ≤ 64 := by simp; omega
    rw [bif_f (by simp [zi]; omega), hi, kbG_pu _ hl, ints_pu, macForm_eq _ (by rw [← keyB_length (ints key), keyB, if_neg (by omega)]) pz parts hz h1 h2 h3 h4, keyB, if_neg (by omega)]
theorem ok80' : CallOk tau Try.prog 80 s80' := ok80.of fun xs es k res hr => by
  change run80' xs es k = some res at hr
  unfold run80' at hr
  split at hr
  · rename_i kz kf key pz pf parts
    obtain ⟨hc, hr⟩ := of_bif hr
    simp only [Bool.and_eq_true, decide_eq_true_eq, Bool.or_eq_true, Bool.not_eq_true', List.isEmpty_iff] at hc
    obtain ⟨⟨⟨a1, a2⟩, ⟨h1, h2⟩, h3, h4⟩, hz⟩ := hc
    exact (g80_eq kz kf key pz pf parts k a1 a2 h1 h2 h3 h4 (fun hp => hz.resolve_left (by rw [hp]; decide))).trans hr
  · cases hr
end Go.Proofs.Ytcklhipdldpkhaa.Rx

/- What comitia/wire.Parse computes. Own work, printed by a program of the worker's own. -/
namespace Go.Proofs.Ytcklhipdldpkhaa.Rx
open Go
set_option linter.unusedVariables false
set_option maxRecDepth 100000
set_option maxHeartbeats 0
noncomputable def F37 : Fns := addF 81 s81' (addF 80 s80' (addF 79 s79' (addF 78 s78 (addF 77 s77' (addF 76 s76 (F0))))))
theorem F37_ok : FnsOk tau Try.prog F37 := ((((((F0_ok).add ok76 en76).add ok77' en77).add ok78 en78).add ok79' en79).add ok80' en80).add ok81' en81
def an37 : An := (.seq .leaf (.seq (.seq .leaf (.cond (.seq .leaf .leaf) .leaf)) (.seq .leaf (.seq .leaf (.seq .leaf (.seq (.seq .leaf (.cond .leaf .leaf)) (.seq (.seq .leaf (.cond .leaf .leaf)) (.seq (.seq .leaf (.cond (.seq .leaf .leaf) .leaf)) (.seq .leaf .leaf)))))))))
noncomputable def g37 (f : Nat) (k0_z : Bool) (k0_f : Bool) (k0 : List PV) (k1_z : Bool) (k1_f : Bool) (k1 : List PV) (k2_z : Bool) (k2_f : Bool) (k2 : List PV) (b_z : Bool) (b_f : Bool) (b : List PV) (k : Res → Option Res) : Option Res := bif decide (zi b.length > 8192) then k (Res.mk (.tup [.st 54 [.sc (.int .i64 0), .sc (.int .i64 0), .sc (.int .i64 0), .st 34 [.sc (.int .i64 0), .sc (.int .i64 0)], .st 45 [.sc (.int .i64 0), .sc (.int .i64 0)], .sc (.int .i64 0), .sc (.int .i64 0), .st 45 [.sc (.int .i64 0), .sc (.int .i64 0)], .sc (.int .i64 0), .sc (.int .i64 0), .ro 29 true true []], .sc (.int .i64 5)]) [] []) else bif slB b_z b then bif (!b_z || b_z) && byB b then bif (msgE (RS.mk b 0)).e == 0 then bif decide (zi (msgE (RS.mk b 0)).b.length > 0) then k (Res.mk (.tup [.st 54 [.sc (.int .i64 0), .sc (.int .i64 0), .sc (.int .i64 0), .st 34 [.sc (.int .i64 0), .sc (.int .i64 0)], .st 45 [.sc (.int .i64 0), .sc (.int .i64 0)], .sc (.int .i64 0), .sc (.int .i64 0), .st 45 [.sc (.int .i64 0), .sc (.int .i64 0)], .sc (.int .i64 0), .sc (.int .i64 0), .ro 29 true true []], .sc (.int .i64 9)]) [] []) else bif (msgE (RS.mk b 0)).e == 0 then bif chk (C13.mk (fld 0 (RS.mk b 0)) (fld 1 (RS.mk b 0)) (fld 2 (RS.mk b 0)) (fld 3 (RS.mk b 0)) (fld 4 (RS.mk b 0)) (fld 5 (RS.mk b 0)) (fld 6 (RS.mk b 0)) (fld 7 (RS.mk b 0)) (fld 8 (RS.mk b 0)) (fld 9 (RS.mk b 0)) (fld 10 (RS.mk b 0)) (fld 11 (RS.mk b 0)) (fld 12 (RS.mk b 0))) == 0 then bif decide (0 ≤ IntKind.i64.wrap (zi b.length - 32)) && true && decide ((IntKind.i64.wrap (zi b.length - 32)).toNat ≤ b.length) && true then bif allInt IntKind.u8 (keyF (K3.mk [.ro 5 k0_z k0_f k0, .ro 5 k1_z k1_f k1, .ro 5 k2_z k2_f k2] (fld 1 (RS.mk b 0)))) && decide ((keyF (K3.mk [.ro 5 k0_z k0_f k0, .ro 5 k1_z k1_f k1, .ro 5 k2_z k2_f k2] (fld 1 (RS.mk b 0)))).length ≤ 1000000000) && (allInt IntKind.u8 (flat [.ro 5 b_z (b_z || b_f && false) (List.take (IntKind.i64.wrap (zi b.length - 32)).toNat b)]) && decide ((flat [.ro 5 b_z (b_z || b_f && false) (List.take (IntKind.i64.wrap (zi b.length - 32)).toNat b)]).length ≤ 1000000000)) && true then bif decide ((pu IntKind.u8 (macP (ints (keyF (K3.mk [.ro 5 k0_z k0_f k0, .ro 5 k1_z k1_f k1, .ro 5 k2_z k2_f k2] (fld 1 (RS.mk b 0))))) (ints (flat [.ro 5 b_z (b_z || b_f && false) (List.take (IntKind.i64.wrap (zi b.length - 32)).toNat b)])))).length = 32) && decide ((pu IntKind.u8 (msgH (RS.mk b 0))).length = 32) && allInt IntKind.u8 (pu IntKind.u8 (macP (ints (keyF (K3.mk [.ro 5 k0_z k0_f k0, .ro 5 k1_z k1_f k1, .ro 5 k2_z k2_f k2] (fld 1 (RS.mk b 0))))) (ints (flat [.ro 5 b_z (b_z || b_f && false) (List.take (IntKind.i64.wrap (zi b.length - 32)).toNat b)])))) && allInt IntKind.u8 (pu IntKind.u8 (msgH (RS.mk b 0))) && true then bif !eqInts (pu IntKind.u8 (macP (ints (keyF (K3.mk [.ro 5 k0_z k0_f k0, .ro 5 k1_z k1_f k1, .ro 5 k2_z k2_f k2] (fld 1 (RS.mk b 0))))) (ints (flat [.ro 5 b_z (b_z || b_f && false) (List.take (IntKind.i64.wrap (zi b.length - 32)).toNat b)])))) (pu IntKind.u8 (msgH (RS.mk b 0))) then k (Res.mk (.tup [.st 54 [.sc (.int .i64 0), .sc (.int .i64 0), .sc (.int .i64 0), .st 34 [.sc (.int .i64 0), .sc (.int .i64 0)], .st 45 [.sc (.int .i64 0), .sc (.int .i64 0)], .sc (.int .i64 0), .sc (.int .i64 0), .st 45 [.sc (.int .i64 0), .sc (.int .i64 0)], .sc (.int .i64 0), .sc (.int .i64 0), .ro 29 true true []], .sc (.int .i64 14)]) [] []) else bif chk (C13.mk (fld 0 (RS.mk b 0)) (fld 1 (RS.mk b 0)) (fld 2 (RS.mk b 0)) (fld 3 (RS.mk b 0)) (fld 4 (RS.mk b 0)) (fld 5 (RS.mk b 0)) (fld 6 (RS.mk b 0)) (fld 7 (RS.mk b 0)) (fld 8 (RS.mk b 0)) (fld 9 (RS.mk b 0)) (fld 10 (RS.mk b 0)) (fld 11 (RS.mk b 0)) (fld 12 (RS.mk b 0))) != 0 then k (Res.mk (.tup [.st 54 [.sc (.int .i64 0), .sc (.int .i64 0), .sc (.int .i64 0), .st 34 [.sc (.int .i64 0), .sc (.int .i64 0)], .st 45 [.sc (.int .i64 0), .sc (.int .i64 0)], .sc (.int .i64 0), .sc (.int .i64 0), .st 45 [.sc (.int .i64 0), .sc (.int .i64 0)], .sc (.int .i64 0), .sc (.int .i64 0), .ro 29 true true []], .sc (.int .i64 (chk (C13.mk (fld 0 (RS.mk b 0)) (fld 1 (RS.mk b 0)) (fld 2 (RS.mk b 0)) (fld 3 (RS.mk b 0)) (fld 4 (RS.mk b 0)) (fld 5 (RS.mk b 0)) (fld 6 (RS.mk b 0)) (fld 7 (RS.mk b 0)) (fld 8 (RS.mk b 0)) (fld 9 (RS.mk b 0)) (fld 10 (RS.mk b 0)) (fld 11 (RS.mk b 0)) (fld 12 (RS.mk b 0)))))]) [] []) else k (Res.mk (.tup [.st 54 [.sc (.int .i64 (fld 0 (RS.mk b 0))), .sc (.int .i64 (fld 1 (RS.mk b 0))), .sc (.int .i64 (fld 2 (RS.mk b 0))), .st 34 [.sc (.int .i64 (fld 3 (RS.mk b 0))), .sc (.int .i64 (fld 4 (RS.mk b 0)))], .st 45 [.sc (.int .i64 (fld 5 (RS.mk b 0))), .sc (.int .i64 (fld 6 (RS.mk b 0)))], .sc (.int .i64 (fld 7 (RS.mk b 0))), .sc (.int .i64 (fld 8 (RS.mk b 0))), .st 45 [.sc (.int .i64 (fld 9 (RS.mk b 0))), .sc (.int .i64 (fld 10 (RS.mk b 0)))], .sc (.int .i64 (fld 11 (RS.mk b 0))), .sc (.int .i64 (fld 12 (RS.mk b 0))), .ro 29 (bodL (RS.mk b 0)).isEmpty (bodL (RS.mk b 0)).isEmpty (bodL (RS.mk b 0))], .sc (.int .i64 0)]) [] []) else none else none else none else bif chk (C13.mk (fld 0 (RS.mk b 0)) (fld 1 (RS.mk b 0)) (fld 2 (RS.mk b 0)) (fld 3 (RS.mk b 0)) (fld 4 (RS.mk b 0)) (fld 5 (RS.mk b 0)) (fld 6 (RS.mk b 0)) (fld 7 (RS.mk b 0)) (fld 8 (RS.mk b 0)) (fld 9 (RS.mk b 0)) (fld 10 (RS.mk b 0)) (fld 11 (RS.mk b 0)) (fld 12 (RS.mk b 0))) != 0 then k (Res.mk (.tup [.st 54 [.sc (.int .i64 0), .sc (.int .i64 0), .sc (.int .i64 0), .st 34 [.sc (.int .i64 0), .sc (.int .i64 0)], .st 45 [.sc (.int .i64 0), .sc (.int .i64 0)], .sc (.int .i64 0), .sc (.int .i64 0), .st 45 [.sc (.int .i64 0), .sc (.int .i64 0)], .sc (.int .i64 0), .sc (.int .i64 0), .ro 29 true true []], .sc (.int .i64 (chk (C13.mk (fld 0 (RS.mk b 0)) (fld 1 (RS.mk b 0)) (fld 2 (RS.mk b 0)) (fld 3 (RS.mk b 0)) (fld 4 (RS.mk b 0)) (fld 5 (RS.mk b 0)) (fld 6 (RS.mk b 0)) (fld 7 (RS.mk b 0)) (fld 8 (RS.mk b 0)) (fld 9 (RS.mk b 0)) (fld 10 (RS.mk b 0)) (fld 11 (RS.mk b 0)) (fld 12 (RS.mk b 0)))))]) [] []) else k (Res.mk (.tup [.st 54 [.sc (.int .i64 (fld 0 (RS.mk b 0))), .sc (.int .i64 (fld 1 (RS.mk b 0))), .sc (.int .i64 (fld 2 (RS.mk b 0))), .st 34 [.sc (.int .i64 (fld 3 (RS.mk b 0))), .sc (.int .i64 (fld 4 (RS.mk b 0)))], .st 45 [.sc (.int .i64 (fld 5 (RS.mk b 0))), .sc (.int .i64 (fld 6 (RS.mk b 0)))], .sc (.int .i64 (fld 7 (RS.mk b 0))), .sc (.int .i64 (fld 8 (RS.mk b 0))), .st 45 [.sc (.int .i64 (fld 9 (RS.mk b 0))), .sc (.int .i64 (fld 10 (RS.mk b 0)))], .sc (.int .i64 (fld 11 (RS.mk b 0))), .sc (.int .i64 (fld 12 (RS.mk b 0))), .ro 29 (bodL (RS.mk b 0)).isEmpty (bodL (RS.mk b 0)).isEmpty (bodL (RS.mk b 0))], .sc (.int .i64 0)]) [] []) else bif (msgE (RS.mk b 0)).e == 0 then bif decide (0 ≤ IntKind.i64.wrap (zi b.length - 32)) && true && decide ((IntKind.i64.wrap (zi b.length - 32)).toNat ≤ b.length) && true then bif allInt IntKind.u8 (keyF (K3.mk [.ro 5 k0_z k0_f k0, .ro 5 k1_z k1_f k1, .ro 5 k2_z k2_f k2] (fld 1 (RS.mk b 0)))) && decide ((keyF (K3.mk [.ro 5 k0_z k0_f k0, .ro 5 k1_z k1_f k1, .ro 5 k2_z k2_f k2] (fld 1 (RS.mk b 0)))).length ≤ 1000000000) && (allInt IntKind.u8 (flat [.ro 5 b_z (b_z || b_f && false) (List.take (IntKind.i64.wrap (zi b.length - 32)).toNat b)]) && decide ((flat [.ro 5 b_z (b_z || b_f && false) (List.take (IntKind.i64.wrap (zi b.length - 32)).toNat b)]).length ≤ 1000000000)) && true then bif decide ((pu IntKind.u8 (macP (ints (keyF (K3.mk [.ro 5 k0_z k0_f k0, .ro 5 k1_z k1_f k1, .ro 5 k2_z k2_f k2] (fld 1 (RS.mk b 0))))) (ints (flat [.ro 5 b_z (b_z || b_f && false) (List.take (IntKind.i64.wrap (zi b.length - 32)).toNat b)])))).length = 32) && decide ((pu IntKind.u8 (msgH (RS.mk b 0))).length = 32) && allInt IntKind.u8 (pu IntKind.u8 (macP (ints (keyF (K3.mk [.ro 5 k0_z k0_f k0, .ro 5 k1_z k1_f k1, .ro 5 k2_z k2_f k2] (fld 1 (RS.mk b 0))))) (ints (flat [.ro 5 b_z (b_z || b_f && false) (List.take (IntKind.i64.wrap (zi b.length - 32)).toNat b)])))) && allInt IntKind.u8 (pu IntKind.u8 (msgH (RS.mk b 0))) && true then bif !eqInts (pu IntKind.u8 (macP (ints (keyF (K3.mk [.ro 5 k0_z k0_f k0, .ro 5 k1_z k1_f k1, .ro 5 k2_z k2_f k2] (fld 1 (RS.mk b 0))))) (ints (flat [.ro 5 b_z (b_z || b_f && false) (List.take (IntKind.i64.wrap (zi b.length - 32)).toNat b)])))) (pu IntKind.u8 (msgH (RS.mk b 0))) then k (Res.mk (.tup [.st 54 [.sc (.int .i64 0), .sc (.int .i64 0), .sc (.int .i64 0), .st 34 [.sc (.int .i64 0), .sc (.int .i64 0)], .st 45 [.sc (.int .i64 0), .sc (.int .i64 0)], .sc (.int .i64 0), .sc (.int .i64 0), .st 45 [.sc (.int .i64 0), .sc (.int .i64 0)], .sc (.int .i64 0), .sc (.int .i64 0), .ro 29 true true []], .sc (.int .i64 14)]) [] []) else bif (msgE (RS.mk b 0)).e != 0 then k (Res.mk (.tup [.st 54 [.sc (.int .i64 0), .sc (.int .i64 0), .sc (.int .i64 0), .st 34 [.sc (.int .i64 0), .sc (.int .i64 0)], .st 45 [.sc (.int .i64 0), .sc (.int .i64 0)], .sc (.int .i64 0), .sc (.int .i64 0), .st 45 [.sc (.int .i64 0), .sc (.int .i64 0)], .sc (.int .i64 0), .sc (.int .i64 0), .ro 29 true true []], .sc (.int .i64 (msgE (RS.mk b 0)).e)]) [] []) else k (Res.mk (.tup [.st 54 [.sc (.int .i64 (fld 0 (RS.mk b 0))), .sc (.int .i64 (fld 1 (RS.mk b 0))), .sc (.int .i64 (fld 2 (RS.mk b 0))), .st 34 [.sc (.int .i64 (fld 3 (RS.mk b 0))), .sc (.int .i64 (fld 4 (RS.mk b 0)))], .st 45 [.sc (.int .i64 (fld 5 (RS.mk b 0))), .sc (.int .i64 (fld 6 (RS.mk b 0)))], .sc (.int .i64 (fld 7 (RS.mk b 0))), .sc (.int .i64 (fld 8 (RS.mk b 0))), .st 45 [.sc (.int .i64 (fld 9 (RS.mk b 0))), .sc (.int .i64 (fld 10 (RS.mk b 0)))], .sc (.int .i64 (fld 11 (RS.mk b 0))), .sc (.int .i64 (fld 12 (RS.mk b 0))), .ro 29 (bodL (RS.mk b 0)).isEmpty (bodL (RS.mk b 0)).isEmpty (bodL (RS.mk b 0))], .sc (.int .i64 0)]) [] []) else none else none else none else bif (msgE (RS.mk b 0)).e != 0 then k (Res.mk (.tup [.st 54 [.sc (.int .i64 0), .sc (.int .i64 0), .sc (.int .i64 0), .st 34 [.sc (.int .i64 0), .sc (.int .i64 0)], .st 45 [.sc (.int .i64 0), .sc (.int .i64 0)], .sc (.int .i64 0), .sc (.int .i64 0), .st 45 [.sc (.int .i64 0), .sc (.int .i64 0)], .sc (.int .i64 0), .sc (.int .i64 0), .ro 29 true true []], .sc (.int .i64 (msgE (RS.mk b 0)).e)]) [] []) else k (Res.mk (.tup [.st 54 [.sc (.int .i64 (fld 0 (RS.mk b 0))), .sc (.int .i64 (fld 1 (RS.mk b 0))), .sc (.int .i64 (fld 2 (RS.mk b 0))), .st 34 [.sc (.int .i64 (fld 3 (RS.mk b 0))), .sc (.int .i64 (fld 4 (RS.mk b 0)))], .st 45 [.sc (.int .i64 (fld 5 (RS.mk b 0))), .sc (.int .i64 (fld 6 (RS.mk b 0)))], .sc (.int .i64 (fld 7 (RS.mk b 0))), .sc (.int .i64 (fld 8 (RS.mk b 0))), .st 45 [.sc (.int .i64 (fld 9 (RS.mk b 0))), .sc (.int .i64 (fld 10 (RS.mk b 0)))], .sc (.int .i64 (fld 11 (RS.mk b 0))), .sc (.int .i64 (fld 12 (RS.mk b 0))), .ro 29 (bodL (RS.mk b 0)).isEmpty (bodL (RS.mk b 0)).isEmpty (bodL (RS.mk b 0))], .sc (.int .i64 0)]) [] []) else bif (msgE (RS.mk b 0)).e == 0 then bif chk (C13.mk (fld 0 (RS.mk b 0)) (fld 1 (RS.mk b 0)) (fld 2 (RS.mk b 0)) (fld 3 (RS.mk b 0)) (fld 4 (RS.mk b 0)) (fld 5 (RS.mk b 0)) (fld 6 (RS.mk b 0)) (fld 7 (RS.mk b 0)) (fld 8 (RS.mk b 0)) (fld 9 (RS.mk b 0)) (fld 10 (RS.mk b 0)) (fld 11 (RS.mk b 0)) (fld 12 (RS.mk b 0))) == 0 then bif decide (0 ≤ IntKind.i64.wrap (zi b.length - 32)) && true && decide ((IntKind.i64.wrap (zi b.length - 32)).toNat ≤ b.length) && true then bif allInt IntKind.u8 (keyF (K3.mk [.ro 5 k0_z k0_f k0, .ro 5 k1_z k1_f k1, .ro 5 k2_z k2_f k2] (fld 1 (RS.mk b 0)))) && decide ((keyF (K3.mk [.ro 5 k0_z k0_f k0, .ro 5 k1_z k1_f k1, .ro 5 k2_z k2_f k2] (fld 1 (RS.mk b 0)))).length ≤ 1000000000) && (allInt IntKind.u8 (flat [.ro 5 b_z (b_z || b_f && false) (List.take (IntKind.i64.wrap (zi b.length - 32)).toNat b)]) && decide ((flat [.ro 5 b_z (b_z || b_f && false) (List.take (IntKind.i64.wrap (zi b.length - 32)).toNat b)]).length ≤ 1000000000)) && true then bif decide ((pu IntKind.u8 (macP (ints (keyF (K3.mk [.ro 5 k0_z k0_f k0, .ro 5 k1_z k1_f k1, .ro 5 k2_z k2_f k2] (fld 1 (RS.mk b 0))))) (ints (flat [.ro 5 b_z (b_z || b_f && false) (List.take (IntKind.i64.wrap (zi b.length - 32)).toNat b)])))).length = 32) && decide ((pu IntKind.u8 (msgH (RS.mk b 0))).length = 32) && allInt IntKind.u8 (pu IntKind.u8 (macP (ints (keyF (K3.mk [.ro 5 k0_z k0_f k0, .ro 5 k1_z k1_f k1, .ro 5 k2_z k2_f k2] (fld 1 (RS.mk b 0))))) (ints (flat [.ro 5 b_z (b_z || b_f && false) (List.take (IntKind.i64.wrap (zi b.length - 32)).toNat b)])))) && allInt IntKind.u8 (pu IntKind.u8 (msgH (RS.mk b 0))) && true then bif !eqInts (pu IntKind.u8 (macP (ints (keyF (K3.mk [.ro 5 k0_z k0_f k0, .ro 5 k1_z k1_f k1, .ro 5 k2_z k2_f k2] (fld 1 (RS.mk b 0))))) (ints (flat [.ro 5 b_z (b_z || b_f && false) (List.take (IntKind.i64.wrap (zi b.length - 32)).toNat b)])))) (pu IntKind.u8 (msgH (RS.mk b 0))) then k (Res.mk (.tup [.st 54 [.sc (.int .i64 0), .sc (.int .i64 0), .sc (.int .i64 0), .st 34 [.sc (.int .i64 0), .sc (.int .i64 0)], .st 45 [.sc (.int .i64 0), .sc (.int .i64 0)], .sc (.int .i64 0), .sc (.int .i64 0), .st 45 [.sc (.int .i64 0), .sc (.int .i64 0)], .sc (.int .i64 0), .sc (.int .i64 0), .ro 29 true true []], .sc (.int .i64 14)]) [] []) else bif chk (C13.mk (fld 0 (RS.mk b 0)) (fld 1 (RS.mk b 0)) (fld 2 (RS.mk b 0)) (fld 3 (RS.mk b 0)) (fld 4 (RS.mk b 0)) (fld 5 (RS.mk b 0)) (fld 6 (RS.mk b 0)) (fld 7 (RS.mk b 0)) (fld 8 (RS.mk b 0)) (fld 9 (RS.mk b 0)) (fld 10 (RS.mk b 0)) (fld 11 (RS.mk b 0)) (fld 12 (RS.mk b 0))) != 0 then k (Res.mk (.tup [.st 54 [.sc (.int .i64 0), .sc (.int .i64 0), .sc (.int .i64 0), .st 34 [.sc (.int .i64 0), .sc (.int .i64 0)], .st 45 [.sc (.int .i64 0), .sc (.int .i64 0)], .sc (.int .i64 0), .sc (.int .i64 0), .st 45 [.sc (.int .i64 0), .sc (.int .i64 0)], .sc (.int .i64 0), .sc (.int .i64 0), .ro 29 true true []], .sc (.int .i64 (chk (C13.mk (fld 0 (RS.mk b 0)) (fld 1 (RS.mk b 0)) (fld 2 (RS.mk b 0)) (fld 3 (RS.mk b 0)) (fld 4 (RS.mk b 0)) (fld 5 (RS.mk b 0)) (fld 6 (RS.mk b 0)) (fld 7 (RS.mk b 0)) (fld 8 (RS.mk b 0)) (fld 9 (RS.mk b 0)) (fld 10 (RS.mk b 0)) (fld 11 (RS.mk b 0)) (fld 12 (RS.mk b 0)))))]) [] []) else k (Res.mk (.tup [.st 54 [.sc (.int .i64 (fld 0 (RS.mk b 0))), .sc (.int .i64 (fld 1 (RS.mk b 0))), .sc (.int .i64 (fld 2 (RS.mk b 0))), .st 34 [.sc (.int .i64 (fld 3 (RS.mk b 0))), .sc (.int .i64 (fld 4 (RS.mk b 0)))], .st 45 [.sc (.int .i64 (fld 5 (RS.mk b 0))), .sc (.int .i64 (fld 6 (RS.mk b 0)))], .sc (.int .i64 (fld 7 (RS.mk b 0))), .sc (.int .i64 (fld 8 (RS.mk b 0))), .st 45 [.sc (.int .i64 (fld 9 (RS.mk b 0))), .sc (.int .i64 (fld 10 (RS.mk b 0)))], .sc (.int .i64 (fld 11 (RS.mk b 0))), .sc (.int .i64 (fld 12 (RS.mk b 0))), .ro 29 (bodL (RS.mk b 0)).isEmpty (bodL (RS.mk b 0)).isEmpty (bodL (RS.mk b 0))], .sc (.int .i64 0)]) [] []) else none else none else none else bif chk (C13.mk (fld 0 (RS.mk b 0)) (fld 1 (RS.mk b 0)) (fld 2 (RS.mk b 0)) (fld 3 (RS.mk b 0)) (fld 4 (RS.mk b 0)) (fld 5 (RS.mk b 0)) (fld 6 (RS.mk b 0)) (fld 7 (RS.mk b 0)) (fld 8 (RS.mk b 0)) (fld 9 (RS.mk b 0)) (fld 10 (RS.mk b 0)) (fld 11 (RS.mk b 0)) (fld 12 (RS.mk b 0))) != 0 then k (Res.mk (.tup [.st 54 [.sc (.int .i64 0), .sc (.int .i64 0), .sc (.int .i64 0), .st 34 [.sc (.int .i64 0), .sc (.int .i64 0)], .st 45 [.sc (.int .i64 0), .sc (.int .i64 0)], .sc (.int .i64 0), .sc (.int .i64 0), .st 45 [.sc (.int .i64 0), .sc (.int .i64 0)], .sc (.int .i64 0), .sc (.int .i64 0), .ro 29 true true []], .sc (.int .i64 (chk (C13.mk (fld 0 (RS.mk b 0)) (fld 1 (RS.mk b 0)) (fld 2 (RS.mk b 0)) (fld 3 (RS.mk b 0)) (fld 4 (RS.mk b 0)) (fld 5 (RS.mk b 0)) (fld 6 (RS.mk b 0)) (fld 7 (RS.mk b 0)) (fld 8 (RS.mk b 0)) (fld 9 (RS.mk b 0)) (fld 10 (RS.mk b 0)) (fld 11 (RS.mk b 0)) (fld 12 (RS.mk b 0)))))]) [] []) else k (Res.mk (.tup [.st 54 [.sc (.int .i64 (fld 0 (RS.mk b 0))), .sc (.int .i64 (fld 1 (RS.mk b 0))), .sc (.int .i64 (fld 2 (RS.mk b 0))), .st 34 [.sc (.int .i64 (fld 3 (RS.mk b 0))), .sc (.int .i64 (fld 4 (RS.mk b 0)))], .st 45 [.sc (.int .i64 (fld 5 (RS.mk b 0))), .sc (.int .i64 (fld 6 (RS.mk b 0)))], .sc (.int .i64 (fld 7 (RS.mk b 0))), .sc (.int .i64 (fld 8 (RS.mk b 0))), .st 45 [.sc (.int .i64 (fld 9 (RS.mk b 0))), .sc (.int .i64 (fld 10 (RS.mk b 0)))], .sc (.int .i64 (fld 11 (RS.mk b 0))), .sc (.int .i64 (fld 12 (RS.mk b 0))), .ro 29 (bodL (RS.mk b 0)).isEmpty (bodL (RS.mk b 0)).isEmpty (bodL (RS.mk b 0))], .sc (.int .i64 0)]) [] []) else bif (msgE (RS.mk b 0)).e == 0 then bif decide (0 ≤ IntKind.i64.wrap (zi b.length - 32)) && true && decide ((IntKind.i64.wrap (zi b.length - 32)).toNat ≤ b.length) && true then bif allInt IntKind.u8 (keyF (K3.mk [.ro 5 k0_z k0_f k0, .ro 5 k1_z k1_f k1, .ro 5 k2_z k2_f k2] (fld 1 (RS.mk b 0)))) && decide ((keyF (K3.mk [.ro 5 k0_z k0_f k0, .ro 5 k1_z k1_f k1, .ro 5 k2_z k2_f k2] (fld 1 (RS.mk b 0)))).length ≤ 1000000000) && (allInt IntKind.u8 (flat [.ro 5 b_z (b_z || b_f && false) (List.take (IntKind.i64.wrap (zi b.length - 32)).toNat b)]) && decide ((flat [.ro 5 b_z (b_z || b_f && false) (List.take (IntKind.i64.wrap (zi b.length - 32)).toNat b)]).length ≤ 1000000000)) && true then bif decide ((pu IntKind.u8 (macP (ints (keyF (K3.mk [.ro 5 k0_z k0_f k0, .ro 5 k1_z k1_f k1, .ro 5 k2_z k2_f k2] (fld 1 (RS.mk b 0))))) (ints (flat [.ro 5 b_z (b_z || b_f && false) (List.take (IntKind.i64.wrap (zi b.length - 32)).toNat b)])))).length = 32) && decide ((pu IntKind.u8 (msgH (RS.mk b 0))).length = 32) && allInt IntKind.u8 (pu IntKind.u8 (macP (ints (keyF (K3.mk [.ro 5 k0_z k0_f k0, .ro 5 k1_z k1_f k1, .ro 5 k2_z k2_f k2] (fld 1 (RS.mk b 0))))) (ints (flat [.ro 5 b_z (b_z || b_f && false) (List.take (IntKind.i64.wrap (zi b.length - 32)).toNat b)])))) && allInt IntKind.u8 (pu IntKind.u8 (msgH (RS.mk b 0))) && true then bif !eqInts (pu IntKind.u8 (macP (ints (keyF (K3.mk [.ro 5 k0_z k0_f k0, .ro 5 k1_z k1_f k1, .ro 5 k2_z k2_f k2] (fld 1 (RS.mk b 0))))) (ints (flat [.ro 5 b_z (b_z || b_f && false) (List.take (IntKind.i64.wrap (zi b.length - 32)).toNat b)])))) (pu IntKind.u8 (msgH (RS.mk b 0))) then k (Res.mk (.tup [.st 54 [.sc (.int .i64 0), .sc (.int .i64 0), .sc (.int .i64 0), .st 34 [.sc (.int .i64 0), .sc (.int .i64 0)], .st 45 [.sc (.int .i64 0), .sc (.int .i64 0)], .sc (.int .i64 0), .sc (.int .i64 0), .st 45 [.sc (.int .i64 0), .sc (.int .i64 0)], .sc (.int .i64 0), .sc (.int .i64 0), .ro 29 true true []], .sc (.int .i64 14)]) [] []) else bif (msgE (RS.mk b 0)).e != 0 then k (Res.mk (.tup [.st 54 [.sc (.int .i64 0), .sc (.int .i64 0), .sc (.int .i64 0), .st 34 [.sc (.int .i64 0), .sc (.int .i64 0)], .st 45 [.sc (.int .i64 0), .sc (.int .i64 0)], .sc (.int .i64 0), .sc (.int .i64 0), .st 45 [.sc (.int .i64 0), .sc (.int .i64 0)], .sc (.int .i64 0), .sc (.int .i64 0), .ro 29 true true []], .sc (.int .i64 (msgE (RS.mk b 0)).e)]) [] []) else k (Res.mk (.tup [.st 54 [.sc (.int .i64 (fld 0 (RS.mk b 0))), .sc (.int .i64 (fld 1 (RS.mk b 0))), .sc (.int .i64 (fld 2 (RS.mk b 0))), .st 34 [.sc (.int .i64 (fld 3 (RS.mk b 0))), .sc (.int .i64 (fld 4 (RS.mk b 0)))], .st 45 [.sc (.int .i64 (fld 5 (RS.mk b 0))), .sc (.int .i64 (fld 6 (RS.mk b 0)))], .sc (.int .i64 (fld 7 (RS.mk b 0))), .sc (.int .i64 (fld 8 (RS.mk b 0))), .st 45 [.sc (.int .i64 (fld 9 (RS.mk b 0))), .sc (.int .i64 (fld 10 (RS.mk b 0)))], .sc (.int .i64 (fld 11 (RS.mk b 0))), .sc (.int .i64 (fld 12 (RS.mk b 0))), .ro 29 (bodL (RS.mk b 0)).isEmpty (bodL (RS.mk b 0)).isEmpty (bodL (RS.mk b 0))], .sc (.int .i64 0)]) [] []) else none else none else none else bif (msgE (RS.mk b 0)).e != 0 then k (Res.mk (.tup [.st 54 [.sc (.int .i64 0), .sc (.int .i64 0), .sc (.int .i64 0), .st 34 [.sc (.int .i64 0), .sc (.int .i64 0)], .st 45 [.sc (.int .i64 0), .sc (.int .i64 0)], .sc (.int .i64 0), .sc (.int .i64 0), .st 45 [.sc (.int .i64 0), .sc (.int .i64 0)], .sc (.int .i64 0), .sc (.int .i64 0), .ro 29 true true []], .sc (.int .i64 (msgE (RS.mk b 0)).e)]) [] []) else k (Res.mk (.tup [.st 54 [.sc (.int .i64 (fld 0 (RS.mk b 0))), .sc (.int .i64 (fld 1 (RS.mk b 0))), .sc (.int .i64 (fld 2 (RS.mk b 0))), .st 34 [.sc (.int .i64 (fld 3 (RS.mk b 0))), .sc (.int .i64 (fld 4 (RS.mk b 0)))], .st 45 [.sc (.int .i64 (fld 5 (RS.mk b 0))), .sc (.int .i64 (fld 6 (RS.mk b 0)))], .sc (.int .i64 (fld 7 (RS.mk b 0))), .sc (.int .i64 (fld 8 (RS.mk b 0))), .st 45 [.sc (.int .i64 (fld 9 (RS.mk b 0))), .sc (.int .i64 (fld 10 (RS.mk b 0)))], .sc (.int .i64 (fld 11 (RS.mk b 0))), .sc (.int .i64 (fld 12 (RS.mk b 0))), .ro 29 (bodL (RS.mk b 0)).isEmpty (bodL (RS.mk b 0)).isEmpty (bodL (RS.mk b 0))], .sc (.int .i64 0)]) [] []) else none else none
theorem e37 (f : Nat) (k0_z : Bool) (k0_f : Bool) (k0 : List PV) (k1_z : Bool) (k1_f : Bool) (k1 : List PV) (k2_z : Bool) (k2_f : Bool) (k2 : List PV) (b_z : Bool) (b_f : Bool) (b : List PV) (k : Res → Option Res) : evFn tau F37 Try.f37 (Try.f37.body.get!) an37 [.ro, .ro] 0 [.st 31 [.ro 5 k0_z k0_f k0, .ro 5 k1_z k1_f k1, .ro 5 k2_z k2_f k2], .ro 5 b_z b_f b] [] k = g37 f k0_z k0_f k0 k1_z k1_f k1 k2_z k2_f k2 b_z b_f b k := by kernel_rfl
theorem it37 (f : Nat) : items (Try.f37.body.get!) an37 = [] := by kernel_rfl
theorem ia37 (f : Nat) : ∀ q ∈ items (Try.f37.body.get!) an37, q.Ok tau Try.prog 0 := by
  rw [it37 f]; intro q hq; cases hq
theorem fo37 : Try.prog.funcs[37]? = some Try.f37 := by kernel_rfl
theorem bo37 : Try.f37.body = some (Try.f37.body.get!) := by kernel_rfl
theorem en37 : Enters Try.prog 37 := enters_of fo37 (by kernel_rfl) bo37
noncomputable def run37 : List PV → List Ent → (Res → Option Res) → Option Res
  | [.st 31 [.ro 5 k0_z k0_f k0, .ro 5 k1_z k1_f k1, .ro 5 k2_z k2_f k2], .ro 5 b_z b_f b], [], k => g37 0 k0_z k0_f k0 k1_z k1_f k1 k2_z k2_f k2 b_z b_f b k
  | _, _, _ => none
noncomputable def s37 : Sig := { own := [], run := run37 }
theorem ok37 : CallOk tau Try.prog 37 s37 := fn_ok tabOk F37_ok mixed fo37 bo37 an37 [.ro, .ro] 0 [] run37 (ia37 0) fun xs es k res hr => by
  unfold run37 at hr
  split at hr
  · exact ⟨rfl, 0, (e37 0 _ _ _ _ _ _ _ _ _ _ _ _  _).trans hr⟩
  · cases hr
end Go.Proofs.Ytcklhipdldpkhaa.Rx

-- FN wire.Parse
/- A message is parsed. Own work. -/
namespace Go.Proofs.Ytcklhipdldpkhaa.Rx
open Go
set_option linter.unusedVariables false
set_option linter.unusedSimpArgs false
set_option maxRecDepth 100000
set_option maxHeartbeats 1000000
structure PA where
  (l : List PV) (b : List PV)
noncomputable def parC (s : RS) : Int := chk ⟨fld 0 s, fld 1 s, fld 2 s, fld 3 s, fld 4 s, fld 5 s, fld 6 s, fld 7 s, fld 8 s, fld 9 s, fld 10 s, fld 11 s, fld 12 s⟩
noncomputable def parM (p : PA) : List Int := macP (ints (keyF ⟨p.l, fld 1 ⟨p.b, 0⟩⟩)) (ints (p.b.take (p.b.length - 32)))
noncomputable def parE0 (p : PA) : Int :=
  bif decide (p.b.length > 8192) then 5
  else bif (msgE ⟨p.b, 0⟩).e == 0 then
    (bif decide ((msgE ⟨p.b, 0⟩).b.length > 0) then 9
    else bif parC ⟨p.b, 0⟩ == 0 then (bif parM p == msgH ⟨p.b, 0⟩ then 0 else 14)
    else parC ⟨p.b, 0⟩)
  else (msgE ⟨p.b, 0⟩).e
noncomputable def parE : PA → Int := hid parE0
noncomputable def pfld : Nat → PA → Int := hid fun i p => bif parE0 p == 0 then fld i ⟨p.b, 0⟩ else 0
noncomputable def pbod : PA → List PV := hid fun p => bif parE0 p == 0 then bodL ⟨p.b, 0⟩ else []
theorem parE_eq (p : PA) : parE p = parE0 p := by rw [parE, hid_eq]
theorem pfld_eq (i : Nat) (p : PA) : pfld i p = bif parE0 p == 0 then fld i ⟨p.b, 0⟩ else 0 := by rw [pfld, hid_eq]
theorem pbod_eq (p : PA) : pbod p = bif parE0 p == 0 then bodL ⟨p.b, 0⟩ else [] := by rw [pbod, hid_eq]
noncomputable def parP (p : PA) : PV := .tup [.st 54 [.sc (.int .i64 (pfld 0 p)), .sc (.int .i64 (pfld 1 p)), .sc (.int .i64 (pfld 2 p)), .st 34 [.sc (.int .i64 (pfld 3 p)), .sc (.int .i64 (pfld 4 p))], .st 45 [.sc (.int .i64 (pfld 5 p)), .sc (.int .i64 (pfld 6 p))], .sc (.int .i64 (pfld 7 p)), .sc (.int .i64 (pfld 8 p)), .st 45 [.sc (.int .i64 (pfld 9 p)), .sc (.int .i64 (pfld 10 p))], .sc (.int .i64 (pfld 11 p)), .sc (.int .i64 (pfld 12 p)), .ro 29 (pbod p).isEmpty (pbod p).isEmpty (pbod p)], .sc (.int .i64 (parE p))]
def zeroM (e : Int) : PV := .tup [.st 54 [.sc (.int .i64 0), .sc (.int .i64 0), .sc (.int .i64 0), .st 34 [.sc (.int .i64 0), .sc (.int .i64 0)], .st 45 [.sc (.int .i64 0), .sc (.int .i64 0)], .sc (.int .i64 0), .sc (.int .i64 0), .st 45 [.sc (.int .i64 0), .sc (.int .i64 0)], .sc (.int .i64 0), .sc (.int .i64 0), .ro 29 true true []], .sc (.int .i64 e)]
theorem parP_bad {p : PA} {e : Int} (h : parE0 p = e) (h0 : (e == 0) = false) : parP p = zeroM e := by
  unfold parP zeroM
  simp only [pfld_eq, pbod_eq, parE_eq, h, h0, cond_false, List.isEmpty_nil]
theorem parP_ok {p : PA} (h : parE0 p = 0) : parP p = .tup [msgP ⟨p.b, 0⟩, .sc (.int .i64 0)] := by
  unfold parP msgP
  simp only [pfld_eq, pbod_eq, parE_eq, h, beq_self_eq_true, cond_true]
theorem stepS_len (n : Nat) (s : RS) : (stepS n s).b.length ≤ s.b.length := by rw [stepS_eq]; exact step_length n s
theorem txtS_len (s : RS) : (txtS s).b.length ≤ s.b.length := by rw [txtS_eq]; exact Nat.le_trans (step_length _ _) (step_length _ _)
theorem fS_len (s : RS) : ∀ n, (fS n s).b.length ≤ s.b.length
  | 0 => Nat.le_refl _
  | 1 => stepS_len 1 s
  | n + 2 => Nat.le_trans (stepS_len 8 _) (fS_len s (n + 1))
theorem txR_len : ∀ (n : Nat) (s : RS), (txR n s).b.length ≤ s.b.length
  | 0, _ => Nat.le_refl _
  | n + 1, s => Nat.le_trans (txR_len n (txtS s)) (txtS_len s)
theorem runB_err : ∀ (n : Nat) {s : RS}, s.e ≠ 0 → (runB n s).e ≠ 0
  | 0, _, h => h
  | n + 1, s, h => by
      show (runB n (stepS0 1 s)).e ≠ 0
      rw [step_err h]; exact runB_err n h
theorem runB_room : ∀ (n : Nat) (s : RS), (runB n s).e = 0 → n ≤ s.b.length
  | 0, _, _ => Nat.zero_le _
  | n + 1, s, h => by
      have h2 : (runB n (stepS0 1 s)).e = 0 := h
      have ih := runB_room n (stepS0 1 s) h2
      cases hk : okS0 1 s with
      | true =>
        have hl : (stepS0 1 s).b = s.b.drop 1 := by unfold stepS0; rw [hk]; rfl
        rw [hl, List.length_drop] at ih
        simp only [okS0, Bool.and_eq_true, Nat.ble_eq] at hk
        omega
      | false =>
        exfalso
        refine runB_err n (s := stepS0 1 s) ?_ h2
        unfold stepS0
        rw [hk, cond_false]
        show (bif s.e == 0 then (8 : Int) else s.e) ≠ 0
        cases he : (s.e == 0) with
        | true => exact (by decide : (8 : Int) ≠ 0)
        | false => exact (by simpa using he : s.e ≠ 0)
theorem msg_room {b : List PV} {e : Int} (h : (msgE ⟨b, e⟩).e = 0) : 32 ≤ b.length := by
  rw [msgE_eq, hashS_eq] at h
  have h1 := runB_room 32 _ h
  have h2 := txR_len (msgN ⟨b, e⟩) (msgS ⟨b, e⟩)
  have h3 : (msgS ⟨b, e⟩).b.length ≤ (stepS 1 (fS 13 ⟨b, e⟩)).b.length := by
    unfold msgS
    cases decide (cntS ⟨b, e⟩ > 4) <;> exact Nat.le_refl _
  have h4 := stepS_len 1 (fS 13 ⟨b, e⟩)
  have h5 := fS_len ⟨b, e⟩ 13
  have h6 : (RS.mk b e).b.length = b.length := rfl
  omega
def kOk (l : List PV) : Bool := allInt .u8 l && decide (l.length ≤ 1000000000)
theorem keyF_ok {z0 f0 z1 f1 z2 f2 : Bool} {k0 k1 k2 : List PV} (h0 : kOk k0 = true) (h1 : kOk k1 = true) (h2 : kOk k2 = true) (d : Int) : kOk (keyF ⟨[.ro 5 z0 f0 k0, .ro 5 z1 f1 k1, .ro 5 z2 f2 k2], d⟩) = true := by
  rw [keyF_eq]
  show kOk (keyF0 _ d).els = true
  unfold keyF0
  cases h : innB d 2 with
  | false => rfl
  | true =>
    simp only [innB, Bool.and_eq_true, decide_eq_true_eq] at h
    have : d = 0 ∨ d = 1 ∨ d = 2 := by omega
    rcases this with rfl | rfl | rfl
    · exact h0
    · exact h1
    · exact h2
noncomputable def run37' : List PV → List Ent → (Res → Option Res) → Option Res
  | [.st 31 [.ro 5 z0 f0 k0, .ro 5 z1 f1 k1, .ro 5 z2 f2 k2], .ro 5 z f b], [], k =>
    bif (slB z b && byB b) && (kOk k0 && (kOk k1 && kOk k2)) then k ⟨parP ⟨[.ro 5 z0 f0 k0, .ro 5 z1 f1 k1, .ro 5 z2 f2 k2], b⟩, [], []⟩ else none
  | _, _, _ => none
noncomputable def s37' : Sig := { own := [], run := run37' }
theorem g37_eq (z0 f0 z1 f1 z2 f2 z f : Bool) (k0 k1 k2 b : List PV) (hz : slB z b = true) (hb : byB b = true) (h0 : kOk k0 = true) (h1 : kOk k1 = true) (h2 : kOk k2 = true) (k : Res → Option Res) :
    g37 0 z0 f0 k0 z1 f1 k1 z2 f2 k2 z f b k = k ⟨parP ⟨[.ro 5 z0 f0 k0, .ro 5 z1 f1 k1, .ro 5 z2 f2 k2], b⟩, [], []⟩ := by
  generalize hp : PA.mk [.ro 5 z0 f0 k0, .ro 5 z1 f1 k1, .ro 5 z2 f2 k2] b = p
  have hpb : p.b = b := by rw [← hp]
  have hpl : p.l = [.ro 5 z0 f0 k0, .ro 5 z1 f1 k1, .ro 5 z2 f2 k2] := by rw [← hp]
  have hE : parE0 p = parE0 p := rfl
  conv at hE => rhs; unfold parE0
  rw [hpb] at hE
  unfold g37
  by_cases c1 : b.length > 8192
  · refine (bif_t (by simp [zi]; omega)).trans ?_
    rw [show decide (b.length > 8192) = true by simpa using c1, cond_true] at hE
    rw [parP_bad hE (by decide)]
    rfl
  refine (bif_f (by simp [zi]; omega)).trans ((bif_t hz).trans ((bif_t (by rw [hb]; cases z <;> rfl)).trans ?_))
  rw [show decide (b.length > 8192) = false by simpa using c1, cond_false] at hE
  cases ce : ((msgE ⟨b, 0⟩).e == 0) with
  | false =>
    rw [ce, cond_false] at hE
    simp only [cond_false]
    refine (bif_t (by simp only [bne, ce]; rfl)).trans ?_
    rw [parP_bad hE ce]
    rfl
  | true =>
    rw [ce, cond_true] at hE
    simp only [cond_true]
    by_cases c2 : (msgE ⟨b, 0⟩).b.length > 0
    · refine (bif_t (by simp [zi]; omega)).trans ?_
      rw [show decide ((msgE ⟨b, 0⟩).b.length > 0) = true by simpa using c2, cond_true] at hE
      rw [parP_bad hE (by decide)]
      rfl
    refine (bif_f (decide_eq_false_iff_not.2 (by simp only [zi]; omega))).trans ?_
    rw [show decide ((msgE ⟨b, 0⟩).b.length > 0) = false by simpa using c2, cond_false] at hE
    have hC : ∀ x : Int, parC ⟨b, 0⟩ = x → chk ⟨fld 0 ⟨b, 0⟩, fld 1 ⟨b, 0⟩, fld 2 ⟨b, 0⟩, fld 3 ⟨b, 0⟩, fld 4 ⟨b, 0⟩, fld 5 ⟨b, 0⟩, fld 6 ⟨b, 0⟩, fld 7 ⟨b, 0⟩, fld 8 ⟨b, 0⟩, fld 9 ⟨b, 0⟩, fld 10 ⟨b, 0⟩, fld 11 ⟨b, 0⟩, fld 12 ⟨b, 0⟩⟩ = x := fun x h => h
    cases cc : (parC ⟨b, 0⟩ == 0) with
    | false =>
      rw [cc, cond_false] at hE
      generalize hx : parC ⟨b, 0⟩ = x at *
      rw [hC x rfl, cc, cond_false]
      refine (bif_t (by simp only [bne, cc]; rfl)).trans ?_
      rw [parP_bad hE cc]
      rfl
    | true =>
      rw [cc, cond_true] at hE
      have cc' : parC ⟨b, 0⟩ = 0 := by simpa using cc
      rw [hC 0 cc']
      refine (bif_t rfl).trans ?_
      have hr := msg_room (b := b) (e := 0) (by simpa using ce)
      have hw : IntKind.i64.wrap (zi b.length - 32) = ((b.length - 32 : Nat) : Int) := by simp only [zi]; rw [wrap_i64 (by omega) (by omega)]; omega
      have hk := keyF_ok (z0 := z0) (f0 := f0) (z1 := z1) (f1 := f1) (z2 := z2) (f2 := f2) h0 h1 h2 (fld 1 ⟨b, 0⟩)
      unfold kOk at hk
      have hab := (byB_iff.1 hb).1
      have hat : allInt .u8 (b.take (b.length - 32)) = true := (byB_iff.1 (byB_take hb (b.length - 32))).1
      have hft : ∀ (x y : Bool) (l : List PV), flat [.ro 5 x y l] = l := fun x y l => by simp [PV.els]
      simp only [hw, Int.toNat_natCast, hft]
      refine (bif_t (by simp)).trans ((bif_t (by rw [hk, hat]; simp; omega)).trans ((bif_t (by simp [macP_length])).trans ?_))
      have hM : parM p = macP (ints (keyF ⟨[.ro 5 z0 f0 k0, .ro 5 z1 f1 k1, .ro 5 z2 f2 k2], fld 1 ⟨b, 0⟩⟩)) (ints (b.take (b.length - 32))) := by unfold parM; rw [hpb, hpl]
      rw [eqInts_pu, ← hM]
      cases cm : (parM p == msgH ⟨b, 0⟩) with
      | false =>
        rw [cm, cond_false] at hE
        refine (bif_t rfl).trans ?_
        rw [parP_bad hE (by decide)]
        rfl
      | true =>
        rw [cm, cond_true] at hE
        refine (bif_f rfl).trans ((bif_f (by decide)).trans ?_)
        rw [parP_ok hE, hpb]
        rfl
theorem ok37' : CallOk tau Try.prog 37 s37' := ok37.of fun xs es k res hr => by
  change run37' xs es k = some res at hr
  unfold run37' at hr
  split at hr
  · rename_i z0 f0 k0 z1 f1 k1 z2 f2 k2 z f b
    obtain ⟨hc, hr⟩ := of_bif hr
    simp only [Bool.and_eq_true] at hc
    exact (g37_eq z0 f0 z1 f1 z2 f2 z f k0 k1 k2 b hc.1.1 hc.1.2 hc.2.1 hc.2.2.1 hc.2.2.2 k).trans hr
  · cases hr
end Go.Proofs.Ytcklhipdldpkhaa.Rx

/- What comitia/code.Byte computes. Own work, printed by a program of the worker's own. -/
namespace Go.Proofs.Ytcklhipdldpkhaa.Rx
open Go
set_option linter.unusedVariables false
set_option maxRecDepth 100000
set_option maxHeartbeats 0
end Go.Proofs.Ytcklhipdldpkhaa.Rx

/- What comitia/code.Text computes. Own work, printed by a program of the worker's own. -/
namespace Go.Proofs.Ytcklhipdldpkhaa.Rx
open Go
set_option linter.unusedVariables false
set_option maxRecDepth 100000
set_option maxHeartbeats 0
end Go.Proofs.Ytcklhipdldpkhaa.Rx

/- What slices.Clone[[]byte,byte] computes. Own work, printed by a program of the worker's own. -/
namespace Go.Proofs.Ytcklhipdldpkhaa.Rx
open Go
set_option linter.unusedVariables false
set_option maxRecDepth 100000
set_option maxHeartbeats 0
end Go.Proofs.Ytcklhipdldpkhaa.Rx

/- What comitia/code.Int computes. Own work, printed by a program of the worker's own. -/
namespace Go.Proofs.Ytcklhipdldpkhaa.Rx
open Go
set_option linter.unusedVariables false
set_option maxRecDepth 100000
set_option maxHeartbeats 0
end Go.Proofs.Ytcklhipdldpkhaa.Rx

/- What comitia/comitiaref1.Byte computes. Own work, printed by a program of the worker's own. -/
namespace Go.Proofs.Ytcklhipdldpkhaa.Rx
open Go
set_option linter.unusedVariables false
set_option maxRecDepth 100000
set_option maxHeartbeats 0
end Go.Proofs.Ytcklhipdldpkhaa.Rx

/- What comitia/comitiaref1.Byte computes. Own work, printed by a program of the worker's own. -/
namespace Go.Proofs.Ytcklhipdldpkhaa.Rx
open Go
set_option linter.unusedVariables false
set_option maxRecDepth 100000
set_option maxHeartbeats 0
end Go.Proofs.Ytcklhipdldpkhaa.Rx

/- What comitia/comitiaref1.Int computes. Own work, printed by a program of the worker's own. -/
namespace Go.Proofs.Ytcklhipdldpkhaa.Rx
open Go
set_option linter.unusedVariables false
set_option maxRecDepth 100000
set_option maxHeartbeats 0
end Go.Proofs.Ytcklhipdldpkhaa.Rx

/- What comitia/comitiaref1.Int computes. Own work, printed by a program of the worker's own. -/
namespace Go.Proofs.Ytcklhipdldpkhaa.Rx
open Go
set_option linter.unusedVariables false
set_option maxRecDepth 100000
set_option maxHeartbeats 0
end Go.Proofs.Ytcklhipdldpkhaa.Rx

/- What comitia/comitiaref1.Text computes. Own work, printed by a program of the worker's own. -/
namespace Go.Proofs.Ytcklhipdldpkhaa.Rx
open Go
set_option linter.unusedVariables false
set_option maxRecDepth 100000
set_option maxHeartbeats 0
end Go.Proofs.Ytcklhipdldpkhaa.Rx

-- FN code.Byte | code.Text | code.Int | ref1.Byte | ref1.Int | ref1.Text
/- Bytes are written: numbers, texts. Own work. -/
namespace Go.Proofs.Ytcklhipdldpkhaa.Rx
open Go
set_option linter.unusedVariables false
set_option linter.unusedSimpArgs false
set_option maxRecDepth 100000
set_option maxHeartbeats 1000000
def ib (n i : Int) : Int := IntKind.u8.wrap (shrI .u64 (IntKind.u64.wrap n) (8 * i))
def intB0 (n : Int) : List Int := [ib n 0, ib n 1, ib n 2, ib n 3, ib n 4, ib n 5, ib n 6, ib n 7]
noncomputable def intB : Int → List Int := hid intB0
theorem intB_eq (n : Int) : intB n = intB0 n := by rw [intB, hid_eq]
@[simp] theorem intB_length (n : Int) : (intB n).length = 8 := by rw [intB_eq]; rfl
/-- a text's bytes -/
def bsI0 (s : ByteArray) : List Int := s.data.toList.map fun b => (b.toNat : Int)
noncomputable def bsI : ByteArray → List Int := hid bsI0
theorem bsI_eq (s : ByteArray) : bsI s = bsI0 s := by rw [bsI, hid_eq]
@[simp] theorem bsI_length (s : ByteArray) : (bsI s).length = s.size := by rw [bsI_eq]; simp [bsI0]
theorem bsI_by (s : ByteArray) : ∀ x ∈ bsI s, 0 ≤ x ∧ x < 256 := by
  intro x hx
  rw [bsI_eq] at hx
  obtain ⟨b, _, rfl⟩ := List.mem_map.1 hx
  have := b.toNat_lt
  omega
noncomputable def textB0 (s : ByteArray) : List Int := [IntKind.u8.wrap (zi s.size), IntKind.u8.wrap (shrI .i64 (zi s.size) 8)] ++ bsI s
noncomputable def textB : ByteArray → List Int := hid textB0
theorem textB_eq (s : ByteArray) : textB s = textB0 s := by rw [textB, hid_eq]
@[simp] theorem textB_length (s : ByteArray) : (textB s).length = s.size + 2 := by rw [textB_eq]; simp [textB0]
theorem wrap_by (x : Int) : 0 ≤ IntKind.u8.wrap x ∧ IntKind.u8.wrap x < 256 := by rw [wrap_u8_eq]; omega
end Go.Proofs.Ytcklhipdldpkhaa.Rx

/- What is written is read again: a message. Own work. -/
namespace Go.Proofs.Ytcklhipdldpkhaa.Rx
open Go
set_option linter.unusedVariables false
set_option linter.unusedSimpArgs false
set_option maxRecDepth 100000
set_option maxHeartbeats 1000000
def i64B (n : Int) : Bool := decide (-9223372036854775808 ≤ n) && decide (n < 9223372036854775808)
structure MsgOk (ns : List Int) (ts : List ByteArray) (h : List Int) : Prop where
  len : ns.length = 12
  num : ∀ n, n < 12 → i64B (ns.getD n 0) = true
  cnt : ts.length ≤ 4
  txt : ∀ t ∈ ts, t.size ≤ 65535
  sum : h.length = 32
  sumB : ∀ x ∈ h, 0 ≤ x ∧ x < 256
end Go.Proofs.Ytcklhipdldpkhaa.Rx

/- What the types say of what is handed in. Own work. -/
namespace Go.Proofs.Ytcklhipdldpkhaa.Rx
open Go
set_option linter.unusedVariables false
set_option linter.unusedSimpArgs false
set_option maxRecDepth 100000
theorem tyL2 {τ : Tab} {m : Nat} {a b : TypeId} {pvs : List PV} (h : TyL τ m [a, b] pvs) : ∃ p q, pvs = [p, q] ∧ Ty τ m a p ∧ Ty τ m b q := by
  match pvs, h with
  | [p, q], h => exact ⟨p, q, rfl, h.1, h.2.1⟩
theorem tyL3 {τ : Tab} {m : Nat} {a b c : TypeId} {pvs : List PV} (h : TyL τ m [a, b, c] pvs) : ∃ p q r, pvs = [p, q, r] ∧ Ty τ m a p ∧ Ty τ m b q ∧ Ty τ m c r := by
  match pvs, h with
  | [p, q, r], h => exact ⟨p, q, r, rfl, h.1, h.2.1, h.2.2.1⟩
theorem ty_rows {n : Nat} (l : List PV) (h : ∀ q ∈ l, Ty tau (n + 2) 29 q) : l.all (PV.isRo 5) = true ∧ allInt .u8 (flat l) = true := by
  have u1 : tau.und 29 = some (.slice 5) := by kernel_rfl
  have u2 : tau.und 5 = some (.int .u8) := by kernel_rfl
  induction l with
  | nil => exact ⟨rfl, rfl⟩
  | cons p ps ih =>
    obtain ⟨i1, i2⟩ := ih fun q hq => h q (List.mem_cons_of_mem _ hq)
    obtain ⟨nl, els, rfl, _, _, t⟩ := ty_slice u1 (h p List.mem_cons_self)
    refine ⟨by simp [PV.isRo, i1], ?_⟩
    rw [flat_cons, allInt_append, i2]
    simp only [PV.els, Bool.and_true]
    exact ty_ints u2 els t
end Go.Proofs.Ytcklhipdldpkhaa.Rx

-- FN law9.Keys | law16.Good | law16.Few
/- Keys, valid messages, messages that are not too much. Own work. -/
namespace Go.Proofs.Ytcklhipdldpkhaa.Rx
open Go
set_option linter.unusedVariables false
set_option linter.unusedSimpArgs false
set_option maxRecDepth 100000
set_option maxHeartbeats 1000000
noncomputable def kb : Nat → List PV → List PV := hid fun i b => pu .u8 [107, 48 + i] ++ b.take 60
theorem kb_eq (i : Nat) (b : List PV) : kb i b = pu .u8 [107, 48 + i] ++ b.take 60 := by rw [kb, hid_eq]
theorem kb_ok (i : Nat) {b : List PV} (h : allInt .u8 b = true) : kOk (kb i b) = true := by
  rw [kb_eq]; unfold kOk
  have h2 : allInt .u8 (b.take 60) = true := by
    rw [pu_ints h, pu_take]; simp
  rw [allInt_append, h2, allInt_pu]
  simp; omega
noncomputable def run21' : List PV → List Ent → (Res → Option Res) → Option Res
  | [.ro 5 z f b], [], k => k ⟨.st 31 [.ro 5 false false (kb 0 b), .ro 5 false false (kb 1 b), .ro 5 false false (kb 2 b)], [], []⟩
  | _, _, _ => none
noncomputable def s21' : Sig := { own := [], run := run21' }
theorem min60 (n m : Nat) : (minI (zi n) m).toNat = min n m := by unfold minI; simp only [zi]; split <;> omega
theorem ok21' : CallOk tau Try.prog 21 s21' := ok21.of fun xs es k res hr => by
  change run21' xs es k = some res at hr
  unfold run21' at hr
  split at hr
  · rename_i z f b
    show g21 0 z f b k = some res
    have hm : (minI (zi b.length) 60).toNat = min b.length 60 := min60 b.length 60
    have ht : List.take (min b.length 60) b = b.take 60 := by rw [Nat.min_comm, List.take_eq_take_iff]; omega
    have hl : (b.take 60).length ≤ 60 := by simp; omega
    have e : ∀ x y : Int, List.take (2 + (b.take 60).length) (.sc (.int .u8 x) :: .sc (.int .u8 y) :: id (b.take 60)) = .sc (.int .u8 x) :: .sc (.int .u8 y) :: b.take 60 := fun x y => List.take_of_length_le (by simp; omega)
    have hk : ∀ i, kb i b = .sc (.int .u8 107) :: .sc (.int .u8 (48 + i)) :: b.take 60 := fun i => by rw [kb_eq]; simp
    unfold g21
    simp only [hm, ht, e]
    have hr4 : roomy (2 + (b.take 60).length) 1 = true := by simp only [roomy, Nat.mul_one, decide_eq_true_eq]; omega
    rw [bif_t (by simp; unfold minI; simp only [zi]; split <;> omega), hr4]
    simp only [hk] at hr
    exact hr
  · cases hr
def goodF0 : Nat → C13 → Int
  | 0, c => 1 + c.kd % 5
  | 1, c => c.fr % 3
  | 2, c => (c.fr % 3 + 1 + c.to % 2) % 3
  | 3, c => c.wh % 3
  | 4, c => c.wn % 100
  | 5, c => c.cd % 3
  | 6, c => c.cu % 8
  | 7, c => c.ve % 1073741824
  | 8, c => c.co % 1073741824
  | 9, c => c.ad % 3
  | 10, c => c.au % 8
  | 11, c => c.su % 1073741824
  | _, c => c.er % 256
noncomputable def goodF : Nat → C13 → Int := hid goodF0
theorem goodF_eq (i : Nat) (c : C13) : goodF i c = goodF0 i c := by rw [goodF, hid_eq]
noncomputable abbrev gcOf (c : C13) : C13 := ⟨goodF 0 c, goodF 1 c, goodF 2 c, goodF 3 c, goodF 4 c, goodF 5 c, goodF 6 c, goodF 7 c, goodF 8 c, goodF 9 c, goodF 10 c, goodF 11 c, goodF 12 c⟩
noncomputable def gB : List PV → List PV := hid fun l => l.take 4
theorem gB_eq (l : List PV) : gB l = l.take 4 := by rw [gB, hid_eq]
noncomputable def run33' : List PV → List Ent → (Res → Option Res) → Option Res
  | [.st 54 [.sc (.int .i64 kd), .sc (.int .i64 fr), .sc (.int .i64 to), .st 34 [.sc (.int .i64 wh), .sc (.int .i64 wn)], .st 45 [.sc (.int .i64 cd), .sc (.int .i64 cu)], .sc (.int .i64 ve), .sc (.int .i64 co), .st 45 [.sc (.int .i64 ad), .sc (.int .i64 au)], .sc (.int .i64 su), .sc (.int .i64 er), .ro 29 z f l]], [], k =>
    k ⟨.st 54 [.sc (.int .i64 (goodF 0 ⟨kd, fr, to, wh, wn, cd, cu, ve, co, ad, au, su, er⟩)), .sc (.int .i64 (goodF 1 ⟨kd, fr, to, wh, wn, cd, cu, ve, co, ad, au, su, er⟩)), .sc (.int .i64 (goodF 2 ⟨kd, fr, to, wh, wn, cd, cu, ve, co, ad, au, su, er⟩)), .st 34 [.sc (.int .i64 (goodF 3 ⟨kd, fr, to, wh, wn, cd, cu, ve, co, ad, au, su, er⟩)), .sc (.int .i64 (goodF 4 ⟨kd, fr, to, wh, wn, cd, cu, ve, co, ad, au, su, er⟩))], .st 45 [.sc (.int .i64 (goodF 5 ⟨kd, fr, to, wh, wn, cd, cu, ve, co, ad, au, su, er⟩)), .sc (.int .i64 (goodF 6 ⟨kd, fr, to, wh, wn, cd, cu, ve, co, ad, au, su, er⟩))], .sc (.int .i64 (goodF 7 ⟨kd, fr, to, wh, wn, cd, cu, ve, co, ad, au, su, er⟩)), .sc (.int .i64 (goodF 8 ⟨kd, fr, to, wh, wn, cd, cu, ve, co, ad, au, su, er⟩)), .st 45 [.sc (.int .i64 (goodF 9 ⟨kd, fr, to, wh, wn, cd, cu, ve, co, ad, au, su, er⟩)), .sc (.int .i64 (goodF 10 ⟨kd, fr, to, wh, wn, cd, cu, ve, co, ad, au, su, er⟩))], .sc (.int .i64 (goodF 11 ⟨kd, fr, to, wh, wn, cd, cu, ve, co, ad, au, su, er⟩)), .sc (.int .i64 (goodF 12 ⟨kd, fr, to, wh, wn, cd, cu, ve, co, ad, au, su, er⟩)), .ro 29 z z (gB l)], [], []⟩
  | _, _, _ => none
noncomputable def s33' : Sig := { own := [], run := run33' }
theorem ok33' : CallOk tau Try.prog 33 s33' := ok33.of fun xs es k res hr => by
  change run33' xs es k = some res at hr
  unfold run33' at hr
  split at hr
  · rename_i kd fr to wh wn cd cu ve co ad au su er z f l
    show g33 0 kd fr to wh wn cd cu ve co ad au su er z f l k = some res
    have hm : (minI (zi l.length) 4).toNat = min l.length 4 := min60 l.length 4
    have ht : List.take (min l.length 4) l = l.take 4 := by rw [Nat.min_comm, List.take_eq_take_iff]; omega
    have hk : IntKind.i64.wrap (1 + kd % 5) = 1 + kd % 5 := wrap_i64 (by omega) (by omega)
    have hw : (IntKind.i64.wrap (IntKind.i64.wrap (fr % 3 + 1) + to % 2)).tmod 3 = (fr % 3 + 1 + to % 2) % 3 := by
      rw [wrap_i64 (x := fr % 3 + 1) (by omega) (by omega), wrap_i64 (by omega) (by omega), Int.tmod_eq_emod_of_nonneg (by omega)]
    simp only [goodF_eq, gB_eq, goodF0] at hr
    unfold g33
    have hW : ∀ n : Int, 0 < n → n < 1000000000000 → okW n = true := fun n h1 h2 => by rw [okW_eq, Bool.and_eq_true, decide_eq_true_eq, decide_eq_true_eq]; exact ⟨h1, h2⟩
    simp only [hm, ht, hk, hw, hW 5 (by decide) (by decide), hW 3 (by decide) (by decide), hW 100 (by decide) (by decide), hW 2 (by decide) (by decide), hW 8 (by decide) (by decide), hW 1073741824 (by decide) (by decide), hW 256 (by decide) (by decide), cond_true, Bool.and_false, Bool.or_false]
    rw [bif_t (by simp; unfold minI; simp only [zi]; split <;> omega)]
    exact hr
  · cases hr
noncomputable def fewB : List PV → Bool := hid fun l => l.all (fun p => decide (p.els.length ≤ 200)) && decide (l.length ≤ 6)
theorem fewB_eq (l : List PV) : fewB l = (l.all (fun p => decide (p.els.length ≤ 200)) && decide (l.length ≤ 6)) := by rw [fewB, hid_eq]
noncomputable def run32' : List PV → List Ent → (Res → Option Res) → Option Res
  | [.st 54 [.sc (.int .i64 kd), .sc (.int .i64 fr), .sc (.int .i64 to), .st 34 [.sc (.int .i64 wh), .sc (.int .i64 wn)], .st 45 [.sc (.int .i64 cd), .sc (.int .i64 cu)], .sc (.int .i64 ve), .sc (.int .i64 co), .st 45 [.sc (.int .i64 ad), .sc (.int .i64 au)], .sc (.int .i64 su), .sc (.int .i64 er), .ro 29 z f l]], [], k =>
    bif l.all (PV.isRo 5) && Nat.ble l.length 9223372036854775807 then k ⟨.sc (.bool (fewB l)), [], []⟩ else none
  | _, _, _ => none
noncomputable def s32' : Sig := { own := [], run := run32' }
theorem l32_0 (l : List PV) (h1 : l.all (PV.isRo 5) = true) (h2 : l.length ≤ 9223372036854775807) (f : Nat) (k0 : Bool → Int → Int → Int → Int → Int → Int → Int → Int → Int → Int → Int → Int → Int → Bool → Bool → List PV → Option Res) (k1 : Int → Int → Int → Int → Int → Int → Int → Int → Int → Int → Int → Int → Int → Bool → Bool → List PV → Option Res) (R : Option Res)
    (kd fr to wh wn cd cu ve co ad au su er : Int) (z fl : Bool) (hk0 : ∀ p ∈ l, p.els.length > 200 → k0 false kd fr to wh wn cd cu ve co ad au su er z fl l = R) (hk1 : (∀ p ∈ l, p.els.length ≤ 200) → k1 kd fr to wh wn cd cu ve co ad au su er z fl l = R) :
    ∀ (d i n : Nat), i + d = l.length → d < n → (∀ p ∈ l.take i, p.els.length ≤ 200) → lp32_0 f k0 k1 n (i : Int) kd fr to wh wn cd cu ve co ad au su er z fl l = R
  | 0, i, n + 1, hi, hn, hp => by
      obtain rfl : i = l.length := by omega
      rw [List.take_length] at hp
      simp only [lp32_0, lpS32_0]
      exact (bif_f (by simp [zi])).trans (hk1 hp)
  | d + 1, i, n + 1, hi, hn, hp => by
      have g1 : ((i : Int)).toNat = i := by omega
      have w1 : IntKind.i64.wrap ((i : Int) + 1) = ((i + 1 : Nat) : Int) := by rw [wrap_i64 (by omega) (by omega)]; omega
      simp only [lp32_0, lpS32_0, g1, w1]
      refine (bif_t (by simp [zi]; omega)).trans ((bif_t (by rw [isRo_getD h1 (by omega)]; simp [zi]; omega)).trans ?_)
      have hmem : l.getD i .top ∈ l := by rw [List.getD_eq_getElem?_getD, List.getElem?_eq_getElem (by omega)]; exact List.getElem_mem (by omega)
      by_cases hc : (l.getD i .top).els.length > 200
      · exact (bif_t (by simp only [zi, decide_eq_true_eq]; omega)).trans (hk0 _ hmem hc)
      · refine (bif_f (by simp only [zi, decide_eq_false_iff_not]; omega)).trans ?_
        refine l32_0 l h1 h2 f k0 k1 R kd fr to wh wn cd cu ve co ad au su er z fl hk0 hk1 d (i + 1) n (by omega) (by omega) fun p hp2 => ?_
        rw [List.take_add_one] at hp2
        rcases List.mem_append.1 hp2 with hp2 | hp2
        · exact hp p hp2
        · rw [List.getElem?_eq_getElem (by omega)] at hp2
          simp only [Option.toList_some, List.mem_singleton] at hp2
          rw [hp2]
          rw [List.getD_eq_getElem?_getD, List.getElem?_eq_getElem (by omega)] at hc
          simpa using hc
theorem g32_eq (kd fr to wh wn cd cu ve co ad au su er : Int) (z f : Bool) (l : List PV) (h1 : l.all (PV.isRo 5) = true) (h2 : l.length ≤ 9223372036854775807) (k : Res → Option Res) : g32 (l.length + 2) kd fr to wh wn cd cu ve co ad au su er z f l k = k ⟨.sc (.bool (fewB l)), [], []⟩ := by
  unfold g32
  refine l32_0 l h1 h2 (l.length + 2) _ _ _ kd fr to wh wn cd cu ve co ad au su er z f (fun p hp hc => ?_) (fun hp => ?_) l.length 0 (l.length + 2) (by omega) (by omega) (by simp)
  · have : fewB l = false := by
      rw [fewB_eq]
      have : l.all (fun p => decide (p.els.length ≤ 200)) = false := List.all_eq_false.2 ⟨p, hp, by simp; omega⟩
      rw [this]; rfl
    rw [this]
  · have : fewB l = decide (zi l.length ≤ 6) := by
      rw [fewB_eq, show l.all (fun p => decide (p.els.length ≤ 200)) = true from List.all_eq_true.2 fun p hq => by simpa using hp p hq, Bool.true_and]
      apply decide_eq_decide.2; simp only [zi]; omega
    rw [this]
theorem ok32' : CallOk tau Try.prog 32 s32' := CallOk.mk' fun xs es k res hl hr => by
  change run32' xs es k = some res at hr
  unfold run32' at hr
  split at hr
  · rename_i kd fr to wh wn cd cu ve co ad au su er z f l
    obtain ⟨hc, hr⟩ := of_bif hr
    simp only [Bool.and_eq_true, Nat.ble_eq] at hc
    have hg := (g32_eq kd fr to wh wn cd cu ve co ad au su er z f l hc.1 hc.2 k).trans hr
    exact fn_at tabOk F32_ok mixed fo32 bo32 (an32 (r32_0 (l.length + 2))) [.ro] 0 0 (ia32 (l.length + 2)) hl rfl ((e32 (l.length + 2) kd fr to wh wn cd cu ve co ad au su er z f l k).trans hg)
  · cases hr
end Go.Proofs.Ytcklhipdldpkhaa.Rx

/- What comitia/comitialaw16.known computes. Own work, printed by a program of the worker's own. -/
namespace Go.Proofs.Ytcklhipdldpkhaa.Rx
open Go
set_option linter.unusedVariables false
set_option maxRecDepth 100000
set_option maxHeartbeats 0
noncomputable def F31 : Fns := addF 37 s37' (addF 21 s21' (F0))
theorem F31_ok : FnsOk tau Try.prog F31 := ((F0_ok).add ok21' en21).add ok37' en37
def an31 : An := (.seq .leaf (.seq .leaf (.seq .leaf .leaf)))
noncomputable def g31 (f : Nat) (k : Res → Option Res) : Option Res := bif kOk (kb 0 []) && (kOk (kb 1 []) && kOk (kb 2 [])) then k (Res.mk (.sc (.bool (parE (PA.mk [.ro 5 false false (kb 0 []), .ro 5 false false (kb 1 []), .ro 5 false false (kb 2 [])] []) == 8))) [] []) else none
theorem e31 (f : Nat) (k : Res → Option Res) : evFn tau F31 Try.f31 (Try.f31.body.get!) an31 [.ro] 0 [] [] k = g31 f k := by kernel_rfl
theorem it31 (f : Nat) : items (Try.f31.body.get!) an31 = [] := by kernel_rfl
theorem ia31 (f : Nat) : ∀ q ∈ items (Try.f31.body.get!) an31, q.Ok tau Try.prog 0 := by
  rw [it31 f]; intro q hq; cases hq
theorem fo31 : Try.prog.funcs[31]? = some Try.f31 := by kernel_rfl
theorem bo31 : Try.f31.body = some (Try.f31.body.get!) := by kernel_rfl
theorem en31 : Enters Try.prog 31 := enters_of fo31 (by kernel_rfl) bo31
noncomputable def run31 : List PV → List Ent → (Res → Option Res) → Option Res
  | [], [], k => g31 0  k
  | _, _, _ => none
noncomputable def s31 : Sig := { own := [], run := run31 }
theorem ok31 : CallOk tau Try.prog 31 s31 := fn_ok tabOk F31_ok mixed fo31 bo31 an31 [.ro] 0 [] run31 (ia31 0) fun xs es k res hr => by
  unfold run31 at hr
  split at hr
  · exact ⟨rfl, 0, (e31 0  _).trans hr⟩
  · cases hr
end Go.Proofs.Ytcklhipdldpkhaa.Rx

-- FN law16.known
/- The chapter's example. Own work. -/
namespace Go.Proofs.Ytcklhipdldpkhaa.Rx
open Go
set_option linter.unusedVariables false
set_option maxRecDepth 100000
theorem runB_id : ∀ (n : Nat) {s : RS}, s.e ≠ 0 → runB n s = s
  | 0, _, _ => rfl
  | n + 1, s, h => by show runB n (stepS0 1 s) = s; rw [step_err h, runB_id n h]
theorem parE_nil (l : List PV) : parE ⟨l, []⟩ = 8 := by
  have h1 : stepS 1 ⟨[], 0⟩ = ⟨[], 8⟩ := by rw [stepS_eq]; rfl
  have he : (RS.mk [] 8).e ≠ 0 := by decide
  have h8 : ∀ n, stepS n ⟨[], 8⟩ = ⟨[], 8⟩ := fun n => by rw [stepS_eq, step_err he]
  have hf : ∀ n, fS (n + 1) ⟨[], 0⟩ = ⟨[], 8⟩ := by
    intro n
    induction n with
    | zero => rw [fS, h1]
    | succ n ih => rw [fS, ih, h8]
  have hc : cntS ⟨[], 0⟩ = 0 := by rw [cntS, hf 12, numS_eq]; rfl
  have hN : msgN ⟨[], 0⟩ = 0 := by unfold msgN; rw [hc]; rfl
  have hS : msgS ⟨[], 0⟩ = ⟨[], 8⟩ := by unfold msgS; rw [hc, hf 12, h8]; rfl
  have hE : msgE ⟨[], 0⟩ = ⟨[], 8⟩ := by rw [msgE_eq, hN, hS, hashS_eq]; exact runB_id 32 he
  rw [parE_eq]; unfold parE0; rw [hE]; rfl
noncomputable def run31' : List PV → List Ent → (Res → Option Res) → Option Res
  | [], [], k => k ⟨.sc (.bool true), [], []⟩
  | _, _, _ => none
noncomputable def s31' : Sig := { own := [], run := run31' }
theorem ok31' : CallOk tau Try.prog 31 s31' := ok31.of fun xs es k res hr => by
  change run31' xs es k = some res at hr
  unfold run31' at hr
  split at hr
  · show g31 0 _ = some res
    unfold g31
    have hk : ∀ i, kOk (kb i []) = true := fun i => kb_ok i rfl
    rw [bif_t (by rw [hk, hk, hk]; rfl), parE_nil]
    exact hr
  · cases hr
end Go.Proofs.Ytcklhipdldpkhaa.Rx

/- What bytes.Equal computes. Own work, printed by a program of the worker's own. -/
namespace Go.Proofs.Ytcklhipdldpkhaa.Rx
open Go
set_option linter.unusedVariables false
set_option maxRecDepth 100000
set_option maxHeartbeats 0
noncomputable def F95 : Fns := F0
theorem F95_ok : FnsOk tau Try.prog F95 := F0_ok
def an95 : An := (.seq .leaf (.seq .leaf .leaf))
noncomputable def g95 (f : Nat) (a_z : Bool) (a_f : Bool) (a : List PV) (b_z : Bool) (b_f : Bool) (b : List PV) (k : Res → Option Res) : Option Res := bif allInt IntKind.u8 a && true then bif allInt IntKind.u8 b && true then k (Res.mk (.sc (.bool (beqB (ByteArray.mk (Array.mk (toBytes (a_z, a).snd))) (ByteArray.mk (Array.mk (toBytes (b_z, b).snd)))))) [] []) else none else none
theorem e95 (f : Nat) (a_z : Bool) (a_f : Bool) (a : List PV) (b_z : Bool) (b_f : Bool) (b : List PV) (k : Res → Option Res) : evFn tau F95 Try.f95 (Try.f95.body.get!) an95 [.ro] 0 [.ro 5 a_z a_f a, .ro 5 b_z b_f b] [] k = g95 f a_z a_f a b_z b_f b k := by kernel_rfl
theorem it95 (f : Nat) : items (Try.f95.body.get!) an95 = [] := by kernel_rfl
theorem ia95 (f : Nat) : ∀ q ∈ items (Try.f95.body.get!) an95, q.Ok tau Try.prog 0 := by
  rw [it95 f]; intro q hq; cases hq
theorem fo95 : Try.prog.funcs[95]? = some Try.f95 := by kernel_rfl
theorem bo95 : Try.f95.body = some (Try.f95.body.get!) := by kernel_rfl
theorem en95 : Enters Try.prog 95 := enters_of fo95 (by kernel_rfl) bo95
noncomputable def run95 : List PV → List Ent → (Res → Option Res) → Option Res
  | [.ro 5 a_z a_f a, .ro 5 b_z b_f b], [], k => g95 0 a_z a_f a b_z b_f b k
  | _, _, _ => none
noncomputable def s95 : Sig := { own := [], run := run95 }
theorem ok95 : CallOk tau Try.prog 95 s95 := fn_ok tabOk F95_ok mixed fo95 bo95 an95 [.ro] 0 [] run95 (ia95 0) fun xs es k res hr => by
  unfold run95 at hr
  split at hr
  · exact ⟨rfl, 0, (e95 0 _ _ _ _ _ _  _).trans hr⟩
  · cases hr
end Go.Proofs.Ytcklhipdldpkhaa.Rx

/- What slices.EqualFunc[[][]byte,[][]byte,[]byte,[]byte] computes. Own work, printed by a program of the worker's own. -/
namespace Go.Proofs.Ytcklhipdldpkhaa.Rx
open Go
set_option linter.unusedVariables false
set_option maxRecDepth 100000
set_option maxHeartbeats 0
def N94 : Nat := 32
noncomputable def F94 : Fns := addF 95 s95 (F0)
theorem F94_ok : FnsOk tau Try.prog F94 := (F0_ok).add ok95 en95
noncomputable def c94_0 : Code := subC (Try.f94.body.get!) [1, 1, 0, 1, 0, 0]
def nm94_0 : Nm := [(1, .any), (2, .any), (15, .any), (16, .any), (17, .any)]
def nx94_0 : Nm := [(6, .any)]
def x94_0 : An := (.seq .leaf (.seq (.cond .leaf .leaf) (.seq (.block none (.seq .leaf (.seq .leaf (.seq .leaf (.cond (.seq .leaf .leaf) .leaf))))) .leaf)))
def an94 (r0 : RunL) : An := (.seq .leaf (.seq (.seq .leaf (.cond (.seq .leaf .leaf) .leaf)) (.seq (.seq .leaf (.block none (.sum nm94_0 N94 r0))) (.seq .leaf .leaf))))
noncomputable def lpS94_0 (f : Nat) (rc : Bool → Bool → List PV → Bool → Bool → List PV → Int → Int → Option Res) (k0 : Bool → Option Res) (k1 : Option Res) (v0 : Bool) (v1 : Bool) (v2 : List PV) (v3 : Bool) (v4 : Bool) (v5 : List PV) (v6 : Int) (v7 : Int) : Option Res := bif decide (v7 < v6) then bif decide (0 ≤ v7) && decide (v7 < zi v5.length) && PV.isRo 5 (v5.getD v7.toNat PV.top) && true then bif decide (0 ≤ v7) && decide (v7 < zi v2.length) && PV.isRo 5 (v2.getD v7.toNat PV.top) && true then bif allInt IntKind.u8 (v5.getD v7.toNat PV.top).els && true then bif allInt IntKind.u8 (v2.getD v7.toNat PV.top).els && true then bif !beqB (ByteArray.mk (Array.mk (toBytes (v5.getD v7.toNat PV.top).els))) (ByteArray.mk (Array.mk (toBytes (v2.getD v7.toNat PV.top).els))) then k0 false else rc v0 v1 v2 v3 v4 v5 v6 (IntKind.i64.wrap (v7 + 1)) else none else none else none else none else k1
noncomputable def lp94_0 (f : Nat) (k0 : Bool → Option Res) (k1 : Option Res) : Nat → Bool → Bool → List PV → Bool → Bool → List PV → Int → Int → Option Res
  | 0, _, _, _, _, _, _, _, _ => none
  | n + 1, v0, v1, v2, v3, v4, v5, v6, v7 => lpS94_0 f (lp94_0 f k0 k1 n) k0 k1 v0 v1 v2 v3 v4 v5 v6 v7
theorem lpR94_0 (f : Nat) (k : Kont) (n : Nat) (v0 : Bool) (v1 : Bool) (v2 : List PV) (v3 : Bool) (v4 : Bool) (v5 : List PV) (v6 : Int) (v7 : Int) : evLoop tau 0 nm94_0 (fun s k => ev tau F94 0 0 c94_0 (x94_0 ) s k) (n + 1) (fillS nm94_0 N94 [.ro 29 v0 v1 v2, PV.fn (Fn.func 95) [] [], .ro 29 v3 v4 v5, .sc (.int .i64 v6), .sc (.int .i64 v7)] []) (kNorm tau 0 nx94_0 k) = lpS94_0 f (fun v0 v1 v2 v3 v4 v5 v6 v7 => evLoop tau 0 nm94_0 (fun s k => ev tau F94 0 0 c94_0 (x94_0 ) s k) n (fillS nm94_0 N94 [.ro 29 v0 v1 v2, PV.fn (Fn.func 95) [] [], .ro 29 v3 v4 v5, .sc (.int .i64 v6), .sc (.int .i64 v7)] []) (kNorm tau 0 nx94_0 k)) (fun x0 => k Ex.ret (fillS nx94_0 N94 [.sc (.bool x0)] [])) (k (Ex.exit 0) (fillS nx94_0 N94 [PV.top] [])) v0 v1 v2 v3 v4 v5 v6 v7 := by kernel_rfl
theorem lpE94_0 (f : Nat) (k : Kont) : ∀ (n : Nat) (v0 : Bool) (v1 : Bool) (v2 : List PV) (v3 : Bool) (v4 : Bool) (v5 : List PV) (v6 : Int) (v7 : Int), evLoop tau 0 nm94_0 (fun s k => ev tau F94 0 0 c94_0 (x94_0 ) s k) n (fillS nm94_0 N94 [.ro 29 v0 v1 v2, PV.fn (Fn.func 95) [] [], .ro 29 v3 v4 v5, .sc (.int .i64 v6), .sc (.int .i64 v7)] []) (kNorm tau 0 nx94_0 k) = lp94_0 f (fun x0 => k Ex.ret (fillS nx94_0 N94 [.sc (.bool x0)] [])) (k (Ex.exit 0) (fillS nx94_0 N94 [PV.top] [])) n v0 v1 v2 v3 v4 v5 v6 v7 | 0, _, _, _, _, _, _, _, _ => rfl | n + 1, v0, v1, v2, v3, v4, v5, v6, v7 => (lpR94_0 f k n v0 v1 v2 v3 v4 v5 v6 v7).trans (congrArg (fun r => lpS94_0 f r (fun x0 => k Ex.ret (fillS nx94_0 N94 [.sc (.bool x0)] [])) (k (Ex.exit 0) (fillS nx94_0 N94 [PV.top] [])) v0 v1 v2 v3 v4 v5 v6 v7) (by funext v0 v1 v2 v3 v4 v5 v6 v7; exact lpE94_0 f k n v0 v1 v2 v3 v4 v5 v6 v7))
noncomputable def r94_0 (f : Nat) : List PV → List (Nat × Ent) → Kont → Option Res
  | [.ro 29 v0 v1 v2, PV.fn (Fn.func 95) [] [], .ro 29 v3 v4 v5, .sc (.int .i64 v6),
  .sc (.int .i64 v7)], [], k => lp94_0 f (fun x0 => k Ex.ret (fillS nx94_0 N94 [.sc (.bool x0)] [])) (k (Ex.exit 0) (fillS nx94_0 N94 [PV.top] [])) f v0 v1 v2 v3 v4 v5 v6 v7
  | _, _, _ => none
theorem it94_0 (f : Nat) : items c94_0 x94_0 = [] := by kernel_rfl
theorem i94_0 (f : Nat) : (Item.l c94_0 nm94_0 N94 (r94_0 f)).Ok tau Try.prog 0 := loop_item tabOk F94_ok mixed (x := x94_0) (nm2 := nx94_0) (anOk_items _ _ (by rw [it94_0 f]; intro q hq; cases hq)) fun vs hp k res hr => by
  unfold r94_0 at hr
  split at hr
  · exact ⟨f, 0, (lpE94_0 f _ f _ _ _ _ _ _ _ _ ).trans hr⟩
  · cases hr
noncomputable def g94 (f : Nat) (s_z : Bool) (s_f : Bool) (s : List PV) (t_z : Bool) (t_f : Bool) (t : List PV) (k : Res → Option Res) : Option Res := bif zi s.length != zi t.length then k (Res.mk (.sc (.bool false)) [] []) else lp94_0 f (fun x0_0 => k (Res.mk (.sc (.bool x0_0)) [] [])) (k (Res.mk (.sc (.bool true)) [] [])) f t_z t_f t s_z s_f s (zi s.length) (0)
theorem e94 (f : Nat) (s_z : Bool) (s_f : Bool) (s : List PV) (t_z : Bool) (t_f : Bool) (t : List PV) (k : Res → Option Res) : evFn tau F94 Try.f94 (Try.f94.body.get!) (an94 (r94_0 f)) [.ro] 0 [.ro 29 s_z s_f s, .ro 29 t_z t_f t, .fn (.func 95) [] []] [] k = g94 f s_z s_f s t_z t_f t k := by kernel_rfl
theorem it94 (f : Nat) : items (Try.f94.body.get!) (an94 (r94_0 f)) = [.l c94_0 nm94_0 N94 (r94_0 f)] := by kernel_rfl
theorem ia94 (f : Nat) : ∀ q ∈ items (Try.f94.body.get!) (an94 (r94_0 f)), q.Ok tau Try.prog 0 := by
  rw [it94 f]; simp only [List.forall_mem_cons, List.not_mem_nil, false_implies, implies_true, and_true]; exact i94_0 f
theorem fo94 : Try.prog.funcs[94]? = some Try.f94 := by kernel_rfl
theorem bo94 : Try.f94.body = some (Try.f94.body.get!) := by kernel_rfl
theorem en94 : Enters Try.prog 94 := enters_of fo94 (by kernel_rfl) bo94
end Go.Proofs.Ytcklhipdldpkhaa.Rx

/- What comitia/comitiaref16.Same computes. Own work, printed by a program of the worker's own. -/
namespace Go.Proofs.Ytcklhipdldpkhaa.Rx
open Go
set_option linter.unusedVariables false
set_option maxRecDepth 100000
set_option maxHeartbeats 0
end Go.Proofs.Ytcklhipdldpkhaa.Rx

-- FN slices.EqualFunc[[][]byte,[][]byte,[]byte,[]byte] | ref16.Same
/- Messages that are the same. Own work. -/
namespace Go.Proofs.Ytcklhipdldpkhaa.Rx
open Go
set_option linter.unusedVariables false
set_option linter.unusedSimpArgs false
set_option maxRecDepth 100000
set_option maxHeartbeats 1000000
def rOk0 (l : List PV) : Bool := l.all (PV.isRo 5) && (allInt .u8 (flat l) && (l.all (fun p => decide (p.els.length ≤ 65535)) && decide (l.length ≤ 1000)))
noncomputable def rOk : List PV → Bool := hid rOk0
theorem rOk_eq (l : List PV) : rOk l = rOk0 l := by rw [rOk, hid_eq]
theorem rOk_iff {l : List PV} : rOk l = true ↔ l.all (PV.isRo 5) = true ∧ allInt .u8 (flat l) = true ∧ (∀ p ∈ l, p.els.length ≤ 65535) ∧ l.length ≤ 1000 := by
  rw [rOk_eq]; unfold rOk0
  simp only [Bool.and_eq_true, List.all_eq_true, decide_eq_true_eq]
def txs (l : List PV) : List (List UInt8) := l.map fun p => toBytes p.els
theorem txs_length (l : List PV) : (txs l).length = l.length := by simp [txs]
theorem txs_get {l : List PV} {i : Nat} (h : i < l.length) : (txs l)[i]? = some (toBytes (l.getD i .top).els) := by
  simp [txs, List.getD_eq_getElem?_getD, h]
noncomputable def eqR : List PV → List PV → Bool := hid fun a b => decide (txs a = txs b)
theorem eqR_eq (a b : List PV) : eqR a b = decide (txs a = txs b) := by rw [eqR, hid_eq]
theorem flat_els {l : List PV} (h : allInt .u8 (flat l) = true) {i : Nat} (hi : i < l.length) : allInt .u8 (l.getD i .top).els = true := by
  induction l generalizing i with
  | nil => simp at hi
  | cons p ps ih =>
    rw [flat_cons, allInt_append, Bool.and_eq_true] at h
    cases i with
    | zero => exact h.1
    | succ i => simpa using ih h.2 (by simpa using hi)
theorem txs_ext {a b : List PV} (hl : a.length = b.length) (h : ∀ j, j < a.length → toBytes (a.getD j .top).els = toBytes (b.getD j .top).els) : txs a = txs b := by
  apply List.ext_getElem?
  intro j
  by_cases hj : j < a.length
  · rw [txs_get hj, txs_get (by omega), h j hj]
  · rw [List.getElem?_eq_none (by rw [txs_length]; omega), List.getElem?_eq_none (by rw [txs_length]; omega)]
theorem beqB_bytes (x y : List UInt8) : beqB (ByteArray.mk (Array.mk x)) (ByteArray.mk (Array.mk y)) = decide (x = y) := by
  rw [beqB_eq]; apply decide_eq_decide.2
  constructor
  · intro h; injection h with h; injection h
  · rintro rfl; rfl
theorem txs_ne {a b : List PV} {i : Nat} (ha : i < a.length) (hb : i < b.length) (h : toBytes (a.getD i .top).els ≠ toBytes (b.getD i .top).els) : txs a ≠ txs b := by
  intro he
  have := txs_get ha
  rw [he, txs_get hb] at this
  exact h (Option.some.inj this).symm
theorem l94_0 (a b : List PV) (ha : a.all (PV.isRo 5) = true) (ha2 : allInt .u8 (flat a) = true) (hb : b.all (PV.isRo 5) = true) (hb2 : allInt .u8 (flat b) = true) (hl : a.length = b.length) (h2 : a.length ≤ 1000) (f : Nat) (k0 : Bool → Option Res) (k1 : Option Res) (R : Option Res) (z1 f1 z2 f2 : Bool)
    (hk0 : txs a ≠ txs b → k0 false = R) (hk1 : txs a = txs b → k1 = R) : ∀ (d i n : Nat), i + d = a.length → d < n → (∀ j, j < i → toBytes (a.getD j .top).els = toBytes (b.getD j .top).els) → lp94_0 f k0 k1 n z2 f2 b z1 f1 a (zi a.length) (i : Int) = R
  | 0, i, n + 1, hi, hn, hp => by
      simp only [lp94_0, lpS94_0]
      exact (bif_f (by simp [zi]; omega)).trans (hk1 (txs_ext hl fun j hj => hp j (by omega)))
  | d + 1, i, n + 1, hi, hn, hp => by
      have g1 : ((i : Int)).toNat = i := by omega
      have w1 : IntKind.i64.wrap ((i : Int) + 1) = ((i + 1 : Nat) : Int) := by rw [wrap_i64 (by omega) (by omega)]; omega
      have hro : ∀ (l : List PV), l.all (PV.isRo 5) = true → i < l.length → (decide (0 ≤ (i : Int)) && decide ((i : Int) < zi l.length) && PV.isRo 5 (l.getD i .top) && true) = true := fun l h hl => by rw [isRo_getD h hl]; simp [zi]; omega
      have hal : ∀ (l : List PV), allInt .u8 (flat l) = true → i < l.length → (allInt .u8 (l.getD i .top).els && true) = true := fun l h hl => by rw [flat_els h hl]; rfl
      simp only [lp94_0, lpS94_0, g1, w1, beqB_bytes]
      refine (bif_t (by simp [zi]; omega)).trans ((bif_t (hro a ha (by omega))).trans ((bif_t (hro b hb (by omega))).trans ((bif_t (hal a ha2 (by omega))).trans ((bif_t (hal b hb2 (by omega))).trans ?_))))
      by_cases hc : toBytes (a.getD i .top).els = toBytes (b.getD i .top).els
      · refine (bif_f (by rw [decide_eq_true hc]; rfl)).trans ?_
        refine l94_0 a b ha ha2 hb hb2 hl h2 f k0 k1 R z1 f1 z2 f2 hk0 hk1 d (i + 1) n (by omega) (by omega) fun j hj => ?_
        rcases Nat.lt_or_ge j i with h | h
        · exact hp j h
        · obtain rfl : j = i := by omega
          exact hc
      · exact (bif_t (by simp only [Bool.not_eq_true', decide_eq_false_iff_not]; exact hc)).trans (hk0 (txs_ne (by omega) (by omega) hc))
noncomputable def run94' : List PV → List Ent → (Res → Option Res) → Option Res
  | [.ro 29 z1 f1 a, .ro 29 z2 f2 b, .fn (.func 95) [] []], [], k => bif rOk a && rOk b then k ⟨.sc (.bool (eqR a b)), [], []⟩ else none
  | _, _, _ => none
noncomputable def s94' : Sig := { own := [], run := run94' }
theorem g94_eq (z1 f1 z2 f2 : Bool) (a b : List PV) (ha : rOk a = true) (hb : rOk b = true) (k : Res → Option Res) : g94 1010 z1 f1 a z2 f2 b k = k ⟨.sc (.bool (eqR a b)), [], []⟩ := by
  obtain ⟨a1, a2, a3, a4⟩ := rOk_iff.1 ha
  obtain ⟨b1, b2, b3, b4⟩ := rOk_iff.1 hb
  rw [eqR_eq]
  unfold g94
  by_cases hl : a.length = b.length
  · refine (bif_f (by simp [zi, hl])).trans ?_
    refine l94_0 a b a1 a2 b1 b2 hl a4 1010 _ _ _ z1 f1 z2 f2 (fun h => ?_) (fun h => ?_) a.length 0 1010 (by omega) (by omega) (fun j hj => absurd hj (by omega))
    · rw [decide_eq_false h]
    · rw [decide_eq_true h]
  · refine (bif_t (by simp only [zi, bne_iff_ne, ne_eq]; omega)).trans ?_
    rw [decide_eq_false (fun h => hl (by rw [← txs_length a, h, txs_length]))]
theorem ok94' : CallOk tau Try.prog 94 s94' := CallOk.mk' fun xs es k res hl hr => by
  change run94' xs es k = some res at hr
  unfold run94' at hr
  split at hr
  · rename_i z1 f1 a z2 f2 b
    obtain ⟨hc, hr⟩ := of_bif hr
    rw [Bool.and_eq_true] at hc
    have hg := (g94_eq z1 f1 z2 f2 a b hc.1 hc.2 k).trans hr
    exact fn_at tabOk F94_ok mixed fo94 bo94 (an94 (r94_0 1010)) [.ro] 0 0 (ia94 1010) hl rfl ((e94 1010 z1 f1 a z2 f2 b k).trans hg)
  · cases hr
structure MS where
  (c : C13) (b : List PV)
def eqC (x y : C13) : Bool := (x.kd == y.kd) && (x.fr == y.fr) && (x.to == y.to) && (x.wh == y.wh) && (x.wn == y.wn) && (x.cd == y.cd) && (x.cu == y.cu) && (x.ve == y.ve) && (x.co == y.co) && (x.ad == y.ad) && (x.au == y.au) && (x.su == y.su) && (x.er == y.er)
theorem eqC_iff {x y : C13} : eqC x y = true ↔ x = y := by
  cases x; cases y
  simp only [eqC, Bool.and_eq_true, beq_iff_eq, C13.mk.injEq, and_assoc]
noncomputable def sameM : MS → MS → Bool := hid fun x y => eqC x.c y.c && eqR x.b y.b
theorem sameM_eq (x y : MS) : sameM x y = (eqC x.c y.c && eqR x.b y.b) := by rw [sameM, hid_eq]
theorem sameM_self (x : MS) : sameM x x = true := by rw [sameM_eq, eqC_iff.2 rfl, eqR_eq]; simp
end Go.Proofs.Ytcklhipdldpkhaa.Rx

/- What comitia/wire.Same computes. Own work, printed by a program of the worker's own. -/
namespace Go.Proofs.Ytcklhipdldpkhaa.Rx
open Go
set_option linter.unusedVariables false
set_option maxRecDepth 100000
set_option maxHeartbeats 0
noncomputable def F40 : Fns := addF 95 s95 (addF 94 s94' (addF 93 s93 (F0)))
theorem F40_ok : FnsOk tau Try.prog F40 := (((F0_ok).add ok93 en93).add ok94' en94).add ok95 en95
def nm40_0 : Nm := [(2, .any), (3, .any), (5, .any), (6, .any), (11, .any), (12, .any)]
def x40_0 : An := (.seq .leaf (.seq (.cond .leaf .leaf) (.seq (.block none (.seq .leaf (.seq .leaf (.cond (.seq .leaf .leaf) .leaf)))) .leaf)))
def an40 : An := (.seq .leaf (.seq .leaf (.seq (.seq .leaf (.block none (.loop nm40_0 x40_0))) (.seq .leaf .leaf))))
noncomputable def g40 (f : Nat) (a_Kind : Int) (a_From : Int) (a_To : Int) (a_W_Host : Int) (a_W_N : Int) (a_Creator_D : Int) (a_Creator_U : Int) (a_Version : Int) (a_Commit : Int) (a_Author_D : Int) (a_Author_U : Int) (a_Sub : Int) (a_Err : Int) (a_Body_z : Bool) (a_Body_f : Bool) (a_Body : List PV) (b_Kind : Int) (b_From : Int) (b_To : Int) (b_W_Host : Int) (b_W_N : Int) (b_Creator_D : Int) (b_Creator_U : Int) (b_Version : Int) (b_Commit : Int) (b_Author_D : Int) (b_Author_U : Int) (b_Sub : Int) (b_Err : Int) (b_Body_z : Bool) (b_Body_f : Bool) (b_Body : List PV) (k : Res → Option Res) : Option Res := bif a_From != b_From then k (Res.mk (.sc (.bool false)) [] []) else bif a_To != b_To then k (Res.mk (.sc (.bool false)) [] []) else bif a_W_Host != b_W_Host then k (Res.mk (.sc (.bool false)) [] []) else bif a_W_N != b_W_N then k (Res.mk (.sc (.bool false)) [] []) else bif a_Creator_D != b_Creator_D then k (Res.mk (.sc (.bool false)) [] []) else bif a_Creator_U != b_Creator_U then k (Res.mk (.sc (.bool false)) [] []) else bif a_Version != b_Version then k (Res.mk (.sc (.bool false)) [] []) else bif a_Commit != b_Commit then k (Res.mk (.sc (.bool false)) [] []) else bif a_Author_D != b_Author_D then k (Res.mk (.sc (.bool false)) [] []) else bif a_Author_U != b_Author_U then k (Res.mk (.sc (.bool false)) [] []) else bif a_Sub != b_Sub then k (Res.mk (.sc (.bool false)) [] []) else bif a_Err != b_Err then k (Res.mk (.sc (.bool false)) [] []) else bif a_Kind == b_Kind then bif rOk a_Body && rOk b_Body then k (Res.mk (.sc (.bool (eqR a_Body b_Body))) [] []) else none else k (Res.mk (.sc (.bool false)) [] [])
theorem e40 (f : Nat) (a_Kind : Int) (a_From : Int) (a_To : Int) (a_W_Host : Int) (a_W_N : Int) (a_Creator_D : Int) (a_Creator_U : Int) (a_Version : Int) (a_Commit : Int) (a_Author_D : Int) (a_Author_U : Int) (a_Sub : Int) (a_Err : Int) (a_Body_z : Bool) (a_Body_f : Bool) (a_Body : List PV) (b_Kind : Int) (b_From : Int) (b_To : Int) (b_W_Host : Int) (b_W_N : Int) (b_Creator_D : Int) (b_Creator_U : Int) (b_Version : Int) (b_Commit : Int) (b_Author_D : Int) (b_Author_U : Int) (b_Sub : Int) (b_Err : Int) (b_Body_z : Bool) (b_Body_f : Bool) (b_Body : List PV) (k : Res → Option Res) : evFn tau F40 Try.f40 (Try.f40.body.get!) an40 [.ro] 13 [.st 54 [.sc (.int .i64 a_Kind), .sc (.int .i64 a_From), .sc (.int .i64 a_To), .st 34 [.sc (.int .i64 a_W_Host), .sc (.int .i64 a_W_N)], .st 45 [.sc (.int .i64 a_Creator_D), .sc (.int .i64 a_Creator_U)], .sc (.int .i64 a_Version), .sc (.int .i64 a_Commit), .st 45 [.sc (.int .i64 a_Author_D), .sc (.int .i64 a_Author_U)], .sc (.int .i64 a_Sub), .sc (.int .i64 a_Err), .ro 29 a_Body_z a_Body_f a_Body], .st 54 [.sc (.int .i64 b_Kind), .sc (.int .i64 b_From), .sc (.int .i64 b_To), .st 34 [.sc (.int .i64 b_W_Host), .sc (.int .i64 b_W_N)], .st 45 [.sc (.int .i64 b_Creator_D), .sc (.int .i64 b_Creator_U)], .sc (.int .i64 b_Version), .sc (.int .i64 b_Commit), .st 45 [.sc (.int .i64 b_Author_D), .sc (.int .i64 b_Author_U)], .sc (.int .i64 b_Sub), .sc (.int .i64 b_Err), .ro 29 b_Body_z b_Body_f b_Body]] [] k = g40 f a_Kind a_From a_To a_W_Host a_W_N a_Creator_D a_Creator_U a_Version a_Commit a_Author_D a_Author_U a_Sub a_Err a_Body_z a_Body_f a_Body b_Kind b_From b_To b_W_Host b_W_N b_Creator_D b_Creator_U b_Version b_Commit b_Author_D b_Author_U b_Sub b_Err b_Body_z b_Body_f b_Body k := by kernel_rfl
theorem it40 (f : Nat) : items (Try.f40.body.get!) an40 = [] := by kernel_rfl
theorem ia40 (f : Nat) : ∀ q ∈ items (Try.f40.body.get!) an40, q.Ok tau Try.prog 0 := by
  rw [it40 f]; intro q hq; cases hq
theorem fo40 : Try.prog.funcs[40]? = some Try.f40 := by kernel_rfl
theorem bo40 : Try.f40.body = some (Try.f40.body.get!) := by kernel_rfl
theorem en40 : Enters Try.prog 40 := enters_of fo40 (by kernel_rfl) bo40
end Go.Proofs.Ytcklhipdldpkhaa.Rx

-- FN wire.Same
/- Messages that are the same, to the program. Own work. -/
namespace Go.Proofs.Ytcklhipdldpkhaa.Rx
open Go
set_option linter.unusedVariables false
set_option linter.unusedSimpArgs false
set_option maxRecDepth 100000
set_option maxHeartbeats 1000000
theorem g40_eq (kd1 fr1 to1 wh1 wn1 cd1 cu1 ve1 co1 ad1 au1 su1 er1 : Int) (z1 f1 : Bool) (a : List PV) (kd2 fr2 to2 wh2 wn2 cd2 cu2 ve2 co2 ad2 au2 su2 er2 : Int) (z2 f2 : Bool) (b : List PV) (ha : rOk a = true) (hb : rOk b = true) (k : Res → Option Res) : g40 0 kd1 fr1 to1 wh1 wn1 cd1 cu1 ve1 co1 ad1 au1 su1 er1 z1 f1 a kd2 fr2 to2 wh2 wn2 cd2 cu2 ve2 co2 ad2 au2 su2 er2 z2 f2 b k = k ⟨.sc (.bool (sameM ⟨⟨kd1, fr1, to1, wh1, wn1, cd1, cu1, ve1, co1, ad1, au1, su1, er1⟩, a⟩ ⟨⟨kd2, fr2, to2, wh2, wn2, cd2, cu2, ve2, co2, ad2, au2, su2, er2⟩, b⟩)), [], []⟩ := by
  unfold g40
  have hsm : sameM ⟨⟨kd1, fr1, to1, wh1, wn1, cd1, cu1, ve1, co1, ad1, au1, su1, er1⟩, a⟩ ⟨⟨kd2, fr2, to2, wh2, wn2, cd2, cu2, ve2, co2, ad2, au2, su2, er2⟩, b⟩ = (eqC ⟨kd1, fr1, to1, wh1, wn1, cd1, cu1, ve1, co1, ad1, au1, su1, er1⟩ ⟨kd2, fr2, to2, wh2, wn2, cd2, cu2, ve2, co2, ad2, au2, su2, er2⟩ && eqR a b) := sameM_eq _ _
  have bad : eqC ⟨kd1, fr1, to1, wh1, wn1, cd1, cu1, ve1, co1, ad1, au1, su1, er1⟩ ⟨kd2, fr2, to2, wh2, wn2, cd2, cu2, ve2, co2, ad2, au2, su2, er2⟩ = false → k ⟨.sc (.bool false), [], []⟩ = k ⟨.sc (.bool (sameM ⟨⟨kd1, fr1, to1, wh1, wn1, cd1, cu1, ve1, co1, ad1, au1, su1, er1⟩, a⟩ ⟨⟨kd2, fr2, to2, wh2, wn2, cd2, cu2, ve2, co2, ad2, au2, su2, er2⟩, b⟩)), [], []⟩ := fun h => by rw [hsm, h]; rfl
  by_cases hfr : ¬ (fr1 = fr2)
  · exact (bif_t (by simpa using hfr)).trans (bad (by simp [eqC, hfr]))
  replace hfr := Decidable.not_not.1 hfr
  refine (bif_f (by simpa using hfr)).trans ?_
  by_cases hto : ¬ (to1 = to2)
  · exact (bif_t (by simpa using hto)).trans (bad (by simp [eqC, hto]))
  replace hto := Decidable.not_not.1 hto
  refine (bif_f (by simpa using hto)).trans ?_
  by_cases hwh : ¬ (wh1 = wh2)
  · exact (bif_t (by simpa using hwh)).trans (bad (by simp [eqC, hwh]))
  replace hwh := Decidable.not_not.1 hwh
  refine (bif_f (by simpa using hwh)).trans ?_
  by_cases hwn : ¬ (wn1 = wn2)
  · exact (bif_t (by simpa using hwn)).trans (bad (by simp [eqC, hwn]))
  replace hwn := Decidable.not_not.1 hwn
  refine (bif_f (by simpa using hwn)).trans ?_
  by_cases hcd : ¬ (cd1 = cd2)
  · exact (bif_t (by simpa using hcd)).trans (bad (by simp [eqC, hcd]))
  replace hcd := Decidable.not_not.1 hcd
  refine (bif_f (by simpa using hcd)).trans ?_
  by_cases hcu : ¬ (cu1 = cu2)
  · exact (bif_t (by simpa using hcu)).trans (bad (by simp [eqC, hcu]))
  replace hcu := Decidable.not_not.1 hcu
  refine (bif_f (by simpa using hcu)).trans ?_
  by_cases hve : ¬ (ve1 = ve2)
  · exact (bif_t (by simpa using hve)).trans (bad (by simp [eqC, hve]))
  replace hve := Decidable.not_not.1 hve
  refine (bif_f (by simpa using hve)).trans ?_
  by_cases hco : ¬ (co1 = co2)
  · exact (bif_t (by simpa using hco)).trans (bad (by simp [eqC, hco]))
  replace hco := Decidable.not_not.1 hco
  refine (bif_f (by simpa using hco)).trans ?_
  by_cases had : ¬ (ad1 = ad2)
  · exact (bif_t (by simpa using had)).trans (bad (by simp [eqC, had]))
  replace had := Decidable.not_not.1 had
  refine (bif_f (by simpa using had)).trans ?_
  by_cases hau : ¬ (au1 = au2)
  · exact (bif_t (by simpa using hau)).trans (bad (by simp [eqC, hau]))
  replace hau := Decidable.not_not.1 hau
  refine (bif_f (by simpa using hau)).trans ?_
  by_cases hsu : ¬ (su1 = su2)
  · exact (bif_t (by simpa using hsu)).trans (bad (by simp [eqC, hsu]))
  replace hsu := Decidable.not_not.1 hsu
  refine (bif_f (by simpa using hsu)).trans ?_
  by_cases her : ¬ (er1 = er2)
  · exact (bif_t (by simpa using her)).trans (bad (by simp [eqC, her]))
  replace her := Decidable.not_not.1 her
  refine (bif_f (by simpa using her)).trans ?_
  by_cases hkd : ¬ (kd1 = kd2)
  · exact (bif_f (by simpa using hkd)).trans (bad (by simp [eqC, hkd]))
  replace hkd := Decidable.not_not.1 hkd
  refine (bif_t (by simpa using hkd)).trans ((bif_t (by rw [ha, hb]; rfl)).trans ?_)
  obtain rfl := hkd
  obtain rfl := hfr
  obtain rfl := hto
  obtain rfl := hwh
  obtain rfl := hwn
  obtain rfl := hcd
  obtain rfl := hcu
  obtain rfl := hve
  obtain rfl := hco
  obtain rfl := had
  obtain rfl := hau
  obtain rfl := hsu
  obtain rfl := her
  have hcc : eqC ⟨kd1, fr1, to1, wh1, wn1, cd1, cu1, ve1, co1, ad1, au1, su1, er1⟩ ⟨kd1, fr1, to1, wh1, wn1, cd1, cu1, ve1, co1, ad1, au1, su1, er1⟩ = true := eqC_iff.2 rfl
  rw [hcc, Bool.true_and] at hsm
  rw [hsm]
noncomputable def run40' : List PV → List Ent → (Res → Option Res) → Option Res
  | [.st 54 [.sc (.int .i64 kd1), .sc (.int .i64 fr1), .sc (.int .i64 to1), .st 34 [.sc (.int .i64 wh1), .sc (.int .i64 wn1)], .st 45 [.sc (.int .i64 cd1), .sc (.int .i64 cu1)], .sc (.int .i64 ve1), .sc (.int .i64 co1), .st 45 [.sc (.int .i64 ad1), .sc (.int .i64 au1)], .sc (.int .i64 su1), .sc (.int .i64 er1), .ro 29 z1 f1 a], .st 54 [.sc (.int .i64 kd2), .sc (.int .i64 fr2), .sc (.int .i64 to2), .st 34 [.sc (.int .i64 wh2), .sc (.int .i64 wn2)], .st 45 [.sc (.int .i64 cd2), .sc (.int .i64 cu2)], .sc (.int .i64 ve2), .sc (.int .i64 co2), .st 45 [.sc (.int .i64 ad2), .sc (.int .i64 au2)], .sc (.int .i64 su2), .sc (.int .i64 er2), .ro 29 z2 f2 b]], [], k => bif rOk a && rOk b then k ⟨.sc (.bool (sameM ⟨⟨kd1, fr1, to1, wh1, wn1, cd1, cu1, ve1, co1, ad1, au1, su1, er1⟩, a⟩ ⟨⟨kd2, fr2, to2, wh2, wn2, cd2, cu2, ve2, co2, ad2, au2, su2, er2⟩, b⟩)), [], []⟩ else none
  | _, _, _ => none
noncomputable def s40' : Sig := { own := [], run := run40' }
theorem ok40' : CallOk tau Try.prog 40 s40' := CallOk.mk' fun xs es k res hl hr => by
  change run40' xs es k = some res at hr
  unfold run40' at hr
  split at hr
  · rename_i kd1 fr1 to1 wh1 wn1 cd1 cu1 ve1 co1 ad1 au1 su1 er1 z1 f1 a kd2 fr2 to2 wh2 wn2 cd2 cu2 ve2 co2 ad2 au2 su2 er2 z2 f2 b
    obtain ⟨hc, hr⟩ := of_bif hr
    rw [Bool.and_eq_true] at hc
    have hg := (g40_eq kd1 fr1 to1 wh1 wn1 cd1 cu1 ve1 co1 ad1 au1 su1 er1 z1 f1 a kd2 fr2 to2 wh2 wn2 cd2 cu2 ve2 co2 ad2 au2 su2 er2 z2 f2 b hc.1 hc.2 k).trans hr
    exact fn_at tabOk F40_ok mixed fo40 bo40 an40 [.ro] 0 13 (ia40 0) hl rfl ((e40 0 kd1 fr1 to1 wh1 wn1 cd1 cu1 ve1 co1 ad1 au1 su1 er1 z1 f1 a kd2 fr2 to2 wh2 wn2 cd2 cu2 ve2 co2 ad2 au2 su2 er2 z2 f2 b k).trans hg)
  · cases hr
end Go.Proofs.Ytcklhipdldpkhaa.Rx
