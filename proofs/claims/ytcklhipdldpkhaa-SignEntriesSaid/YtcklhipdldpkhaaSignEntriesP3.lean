/- What the functions of this law compute, and their plain laws. Conditions: none. -/
import Derived.Test.YtcklhipdldpkhaaSignEntriesP2
namespace Go.Proofs.Ytcklhipdldpkhaa.Rx
open Go
set_option linter.unusedVariables false
set_option linter.unusedSimpArgs false
set_option maxRecDepth 100000
set_option maxHeartbeats 0
noncomputable def JwT : Fns := JH 114 Jlx (JH 98 JnF (JH 97 Jsw (JH 96 Jss (F0))))
theorem JnT : JA tau Try.prog JwT := ((((JJ).add Jp0 JvY).add Jp6 Jr8).add Jlf Jr3).add Jly Jqb
def JnU : Nm := [(1, .any), (3, .any), (16, .any), (17, .any), (18, .any)]
def JsJ : An := (.seq .leaf (.seq (.cond .leaf .leaf) (.seq (.block none (.seq .leaf .leaf)) .leaf)))
def Jiz : An := (.seq .leaf (.seq .leaf (.seq (.seq .leaf (.block none (.loop JnU JsJ))) (.seq .leaf (.seq .leaf .leaf)))))
noncomputable def JsK (f : Nat) (d_Author_D : Int) (d_Author_U : Int) (d_Id : Int) (d_Version : Int) (d_Hash : List PV) (d_Kind : Int) (d_Op_z : Bool) (d_Op_f : Bool) (d_Op : List PV) (d_Who_D : Int) (d_Who_U : Int) (k : Res → Option Res) : Option Res := bif okZ true [] then bif okZ false (List.take (apI [] d_Author_D).length (apI [] d_Author_D)) then bif okZ false (List.take (apI (List.take (apI [] d_Author_D).length (apI [] d_Author_D)) d_Author_U).length (apI (List.take (apI [] d_Author_D).length (apI [] d_Author_D)) d_Author_U)) then bif okZ false (List.take (apI (List.take (apI (List.take (apI [] d_Author_D).length (apI [] d_Author_D)) d_Author_U).length (apI (List.take (apI [] d_Author_D).length (apI [] d_Author_D)) d_Author_U)) d_Id).length (apI (List.take (apI (List.take (apI [] d_Author_D).length (apI [] d_Author_D)) d_Author_U).length (apI (List.take (apI [] d_Author_D).length (apI [] d_Author_D)) d_Author_U)) d_Id)) then bif Jj ((apI (List.take (apI (List.take (apI (List.take (apI [] d_Author_D).length (apI [] d_Author_D)) d_Author_U).length (apI (List.take (apI [] d_Author_D).length (apI [] d_Author_D)) d_Author_U)) d_Id).length (apI (List.take (apI (List.take (apI [] d_Author_D).length (apI [] d_Author_D)) d_Author_U).length (apI (List.take (apI [] d_Author_D).length (apI [] d_Author_D)) d_Author_U)) d_Id)) d_Version).length + (List.take 32 d_Hash).length) 1 && true then bif okZ false (List.take ((apI (List.take (apI (List.take (apI (List.take (apI [] d_Author_D).length (apI [] d_Author_D)) d_Author_U).length (apI (List.take (apI [] d_Author_D).length (apI [] d_Author_D)) d_Author_U)) d_Id).length (apI (List.take (apI (List.take (apI [] d_Author_D).length (apI [] d_Author_D)) d_Author_U).length (apI (List.take (apI [] d_Author_D).length (apI [] d_Author_D)) d_Author_U)) d_Id)) d_Version).length + (List.take 32 d_Hash).length) (List.take (apI (List.take (apI (List.take (apI (List.take (apI [] d_Author_D).length (apI [] d_Author_D)) d_Author_U).length (apI (List.take (apI [] d_Author_D).length (apI [] d_Author_D)) d_Author_U)) d_Id).length (apI (List.take (apI (List.take (apI [] d_Author_D).length (apI [] d_Author_D)) d_Author_U).length (apI (List.take (apI [] d_Author_D).length (apI [] d_Author_D)) d_Author_U)) d_Id)) d_Version).length (apI (List.take (apI (List.take (apI (List.take (apI [] d_Author_D).length (apI [] d_Author_D)) d_Author_U).length (apI (List.take (apI [] d_Author_D).length (apI [] d_Author_D)) d_Author_U)) d_Id).length (apI (List.take (apI (List.take (apI [] d_Author_D).length (apI [] d_Author_D)) d_Author_U).length (apI (List.take (apI [] d_Author_D).length (apI [] d_Author_D)) d_Author_U)) d_Id)) d_Version) ++ List.take 32 d_Hash)) then bif cBy d_Op then bif Jd IntKind.u8 (pu IntKind.u8 (opB d_Op)) && true then bif okZ false (List.take (apY (List.take ((apI (List.take (apI (List.take (apI (List.take (apI [] d_Author_D).length (apI [] d_Author_D)) d_Author_U).length (apI (List.take (apI [] d_Author_D).length (apI [] d_Author_D)) d_Author_U)) d_Id).length (apI (List.take (apI (List.take (apI [] d_Author_D).length (apI [] d_Author_D)) d_Author_U).length (apI (List.take (apI [] d_Author_D).length (apI [] d_Author_D)) d_Author_U)) d_Id)) d_Version).length + (List.take 32 d_Hash).length) (List.take (apI (List.take (apI (List.take (apI (List.take (apI [] d_Author_D).length (apI [] d_Author_D)) d_Author_U).length (apI (List.take (apI [] d_Author_D).length (apI [] d_Author_D)) d_Author_U)) d_Id).length (apI (List.take (apI (List.take (apI [] d_Author_D).length (apI [] d_Author_D)) d_Author_U).length (apI (List.take (apI [] d_Author_D).length (apI [] d_Author_D)) d_Author_U)) d_Id)) d_Version).length (apI (List.take (apI (List.take (apI (List.take (apI [] d_Author_D).length (apI [] d_Author_D)) d_Author_U).length (apI (List.take (apI [] d_Author_D).length (apI [] d_Author_D)) d_Author_U)) d_Id).length (apI (List.take (apI (List.take (apI [] d_Author_D).length (apI [] d_Author_D)) d_Author_U).length (apI (List.take (apI [] d_Author_D).length (apI [] d_Author_D)) d_Author_U)) d_Id)) d_Version) ++ List.take 32 d_Hash)) d_Kind).length (apY (List.take ((apI (List.take (apI (List.take (apI (List.take (apI [] d_Author_D).length (apI [] d_Author_D)) d_Author_U).length (apI (List.take (apI [] d_Author_D).length (apI [] d_Author_D)) d_Author_U)) d_Id).length (apI (List.take (apI (List.take (apI [] d_Author_D).length (apI [] d_Author_D)) d_Author_U).length (apI (List.take (apI [] d_Author_D).length (apI [] d_Author_D)) d_Author_U)) d_Id)) d_Version).length + (List.take 32 d_Hash).length) (List.take (apI (List.take (apI (List.take (apI (List.take (apI [] d_Author_D).length (apI [] d_Author_D)) d_Author_U).length (apI (List.take (apI [] d_Author_D).length (apI [] d_Author_D)) d_Author_U)) d_Id).length (apI (List.take (apI (List.take (apI [] d_Author_D).length (apI [] d_Author_D)) d_Author_U).length (apI (List.take (apI [] d_Author_D).length (apI [] d_Author_D)) d_Author_U)) d_Id)) d_Version).length (apI (List.take (apI (List.take (apI (List.take (apI [] d_Author_D).length (apI [] d_Author_D)) d_Author_U).length (apI (List.take (apI [] d_Author_D).length (apI [] d_Author_D)) d_Author_U)) d_Id).length (apI (List.take (apI (List.take (apI [] d_Author_D).length (apI [] d_Author_D)) d_Author_U).length (apI (List.take (apI [] d_Author_D).length (apI [] d_Author_D)) d_Author_U)) d_Id)) d_Version) ++ List.take 32 d_Hash)) d_Kind)) && (ByteArray.mk (Array.mk (Jl (false, pu IntKind.u8 (opB d_Op)).snd))).size.ble 65535 then bif okZ false (List.take (apT (List.take (apY (List.take ((apI (List.take (apI (List.take (apI (List.take (apI [] d_Author_D).length (apI [] d_Author_D)) d_Author_U).length (apI (List.take (apI [] d_Author_D).length (apI [] d_Author_D)) d_Author_U)) d_Id).length (apI (List.take (apI (List.take (apI [] d_Author_D).length (apI [] d_Author_D)) d_Author_U).length (apI (List.take (apI [] d_Author_D).length (apI [] d_Author_D)) d_Author_U)) d_Id)) d_Version).length + (List.take 32 d_Hash).length) (List.take (apI (List.take (apI (List.take (apI (List.take (apI [] d_Author_D).length (apI [] d_Author_D)) d_Author_U).length (apI (List.take (apI [] d_Author_D).length (apI [] d_Author_D)) d_Author_U)) d_Id).length (apI (List.take (apI (List.take (apI [] d_Author_D).length (apI [] d_Author_D)) d_Author_U).length (apI (List.take (apI [] d_Author_D).length (apI [] d_Author_D)) d_Author_U)) d_Id)) d_Version).length (apI (List.take (apI (List.take (apI (List.take (apI [] d_Author_D).length (apI [] d_Author_D)) d_Author_U).length (apI (List.take (apI [] d_Author_D).length (apI [] d_Author_D)) d_Author_U)) d_Id).length (apI (List.take (apI (List.take (apI [] d_Author_D).length (apI [] d_Author_D)) d_Author_U).length (apI (List.take (apI [] d_Author_D).length (apI [] d_Author_D)) d_Author_U)) d_Id)) d_Version) ++ List.take 32 d_Hash)) d_Kind).length (apY (List.take ((apI (List.take (apI (List.take (apI (List.take (apI [] d_Author_D).length (apI [] d_Author_D)) d_Author_U).length (apI (List.take (apI [] d_Author_D).length (apI [] d_Author_D)) d_Author_U)) d_Id).length (apI (List.take (apI (List.take (apI [] d_Author_D).length (apI [] d_Author_D)) d_Author_U).length (apI (List.take (apI [] d_Author_D).length (apI [] d_Author_D)) d_Author_U)) d_Id)) d_Version).length + (List.take 32 d_Hash).length) (List.take (apI (List.take (apI (List.take (apI (List.take (apI [] d_Author_D).length (apI [] d_Author_D)) d_Author_U).length (apI (List.take (apI [] d_Author_D).length (apI [] d_Author_D)) d_Author_U)) d_Id).length (apI (List.take (apI (List.take (apI [] d_Author_D).length (apI [] d_Author_D)) d_Author_U).length (apI (List.take (apI [] d_Author_D).length (apI [] d_Author_D)) d_Author_U)) d_Id)) d_Version).length (apI (List.take (apI (List.take (apI (List.take (apI [] d_Author_D).length (apI [] d_Author_D)) d_Author_U).length (apI (List.take (apI [] d_Author_D).length (apI [] d_Author_D)) d_Author_U)) d_Id).length (apI (List.take (apI (List.take (apI [] d_Author_D).length (apI [] d_Author_D)) d_Author_U).length (apI (List.take (apI [] d_Author_D).length (apI [] d_Author_D)) d_Author_U)) d_Id)) d_Version) ++ List.take 32 d_Hash)) d_Kind)) (ByteArray.mk (Array.mk (Jl (false, pu IntKind.u8 (opB d_Op)).snd)))).length (apT (List.take (apY (List.take ((apI (List.take (apI (List.take (apI (List.take (apI [] d_Author_D).length (apI [] d_Author_D)) d_Author_U).length (apI (List.take (apI [] d_Author_D).length (apI [] d_Author_D)) d_Author_U)) d_Id).length (apI (List.take (apI (List.take (apI [] d_Author_D).length (apI [] d_Author_D)) d_Author_U).length (apI (List.take (apI [] d_Author_D).length (apI [] d_Author_D)) d_Author_U)) d_Id)) d_Version).length + (List.take 32 d_Hash).length) (List.take (apI (List.take (apI (List.take (apI (List.take (apI [] d_Author_D).length (apI [] d_Author_D)) d_Author_U).length (apI (List.take (apI [] d_Author_D).length (apI [] d_Author_D)) d_Author_U)) d_Id).length (apI (List.take (apI (List.take (apI [] d_Author_D).length (apI [] d_Author_D)) d_Author_U).length (apI (List.take (apI [] d_Author_D).length (apI [] d_Author_D)) d_Author_U)) d_Id)) d_Version).length (apI (List.take (apI (List.take (apI (List.take (apI [] d_Author_D).length (apI [] d_Author_D)) d_Author_U).length (apI (List.take (apI [] d_Author_D).length (apI [] d_Author_D)) d_Author_U)) d_Id).length (apI (List.take (apI (List.take (apI [] d_Author_D).length (apI [] d_Author_D)) d_Author_U).length (apI (List.take (apI [] d_Author_D).length (apI [] d_Author_D)) d_Author_U)) d_Id)) d_Version) ++ List.take 32 d_Hash)) d_Kind).length (apY (List.take ((apI (List.take (apI (List.take (apI (List.take (apI [] d_Author_D).length (apI [] d_Author_D)) d_Author_U).length (apI (List.take (apI [] d_Author_D).length (apI [] d_Author_D)) d_Author_U)) d_Id).length (apI (List.take (apI (List.take (apI [] d_Author_D).length (apI [] d_Author_D)) d_Author_U).length (apI (List.take (apI [] d_Author_D).length (apI [] d_Author_D)) d_Author_U)) d_Id)) d_Version).length + (List.take 32 d_Hash).length) (List.take (apI (List.take (apI (List.take (apI (List.take (apI [] d_Author_D).length (apI [] d_Author_D)) d_Author_U).length (apI (List.take (apI [] d_Author_D).length (apI [] d_Author_D)) d_Author_U)) d_Id).length (apI (List.take (apI (List.take (apI [] d_Author_D).length (apI [] d_Author_D)) d_Author_U).length (apI (List.take (apI [] d_Author_D).length (apI [] d_Author_D)) d_Author_U)) d_Id)) d_Version).length (apI (List.take (apI (List.take (apI (List.take (apI [] d_Author_D).length (apI [] d_Author_D)) d_Author_U).length (apI (List.take (apI [] d_Author_D).length (apI [] d_Author_D)) d_Author_U)) d_Id).length (apI (List.take (apI (List.take (apI [] d_Author_D).length (apI [] d_Author_D)) d_Author_U).length (apI (List.take (apI [] d_Author_D).length (apI [] d_Author_D)) d_Author_U)) d_Id)) d_Version) ++ List.take 32 d_Hash)) d_Kind)) (ByteArray.mk (Array.mk (Jl (false, pu IntKind.u8 (opB d_Op)).snd))))) then bif okZ false (List.take (apI (List.take (apT (List.take (apY (List.take ((apI (List.take (apI (List.take (apI (List.take (apI [] d_Author_D).length (apI [] d_Author_D)) d_Author_U).length (apI (List.take (apI [] d_Author_D).length (apI [] d_Author_D)) d_Author_U)) d_Id).length (apI (List.take (apI (List.take (apI [] d_Author_D).length (apI [] d_Author_D)) d_Author_U).length (apI (List.take (apI [] d_Author_D).length (apI [] d_Author_D)) d_Author_U)) d_Id)) d_Version).length + (List.take 32 d_Hash).length) (List.take (apI (List.take (apI (List.take (apI (List.take (apI [] d_Author_D).length (apI [] d_Author_D)) d_Author_U).length (apI (List.take (apI [] d_Author_D).length (apI [] d_Author_D)) d_Author_U)) d_Id).length (apI (List.take (apI (List.take (apI [] d_Author_D).length (apI [] d_Author_D)) d_Author_U).length (apI (List.take (apI [] d_Author_D).length (apI [] d_Author_D)) d_Author_U)) d_Id)) d_Version).length (apI (List.take (apI (List.take (apI (List.take (apI [] d_Author_D).length (apI [] d_Author_D)) d_Author_U).length (apI (List.take (apI [] d_Author_D).length (apI [] d_Author_D)) d_Author_U)) d_Id).length (apI (List.take (apI (List.take (apI [] d_Author_D).length (apI [] d_Author_D)) d_Author_U).length (apI (List.take (apI [] d_Author_D).length (apI [] d_Author_D)) d_Author_U)) d_Id)) d_Version) ++ List.take 32 d_Hash)) d_Kind).length (apY (List.take ((apI (List.take (apI (List.take (apI (List.take (apI [] d_Author_D).length (apI [] d_Author_D)) d_Author_U).length (apI (List.take (apI [] d_Author_D).length (apI [] d_Author_D)) d_Author_U)) d_Id).length (apI (List.take (apI (List.take (apI [] d_Author_D).length (apI [] d_Author_D)) d_Author_U).length (apI (List.take (apI [] d_Author_D).length (apI [] d_Author_D)) d_Author_U)) d_Id)) d_Version).length + (List.take 32 d_Hash).length) (List.take (apI (List.take (apI (List.take (apI (List.take (apI [] d_Author_D).length (apI [] d_Author_D)) d_Author_U).length (apI (List.take (apI [] d_Author_D).length (apI [] d_Author_D)) d_Author_U)) d_Id).length (apI (List.take (apI (List.take (apI [] d_Author_D).length (apI [] d_Author_D)) d_Author_U).length (apI (List.take (apI [] d_Author_D).length (apI [] d_Author_D)) d_Author_U)) d_Id)) d_Version).length (apI (List.take (apI (List.take (apI (List.take (apI [] d_Author_D).length (apI [] d_Author_D)) d_Author_U).length (apI (List.take (apI [] d_Author_D).length (apI [] d_Author_D)) d_Author_U)) d_Id).length (apI (List.take (apI (List.take (apI [] d_Author_D).length (apI [] d_Author_D)) d_Author_U).length (apI (List.take (apI [] d_Author_D).length (apI [] d_Author_D)) d_Author_U)) d_Id)) d_Version) ++ List.take 32 d_Hash)) d_Kind)) (ByteArray.mk (Array.mk (Jl (false, pu IntKind.u8 (opB d_Op)).snd)))).length (apT (List.take (apY (List.take ((apI (List.take (apI (List.take (apI (List.take (apI [] d_Author_D).length (apI [] d_Author_D)) d_Author_U).length (apI (List.take (apI [] d_Author_D).length (apI [] d_Author_D)) d_Author_U)) d_Id).length (apI (List.take (apI (List.take (apI [] d_Author_D).length (apI [] d_Author_D)) d_Author_U).length (apI (List.take (apI [] d_Author_D).length (apI [] d_Author_D)) d_Author_U)) d_Id)) d_Version).length + (List.take 32 d_Hash).length) (List.take (apI (List.take (apI (List.take (apI (List.take (apI [] d_Author_D).length (apI [] d_Author_D)) d_Author_U).length (apI (List.take (apI [] d_Author_D).length (apI [] d_Author_D)) d_Author_U)) d_Id).length (apI (List.take (apI (List.take (apI [] d_Author_D).length (apI [] d_Author_D)) d_Author_U).length (apI (List.take (apI [] d_Author_D).length (apI [] d_Author_D)) d_Author_U)) d_Id)) d_Version).length (apI (List.take (apI (List.take (apI (List.take (apI [] d_Author_D).length (apI [] d_Author_D)) d_Author_U).length (apI (List.take (apI [] d_Author_D).length (apI [] d_Author_D)) d_Author_U)) d_Id).length (apI (List.take (apI (List.take (apI [] d_Author_D).length (apI [] d_Author_D)) d_Author_U).length (apI (List.take (apI [] d_Author_D).length (apI [] d_Author_D)) d_Author_U)) d_Id)) d_Version) ++ List.take 32 d_Hash)) d_Kind).length (apY (List.take ((apI (List.take (apI (List.take (apI (List.take (apI [] d_Author_D).length (apI [] d_Author_D)) d_Author_U).length (apI (List.take (apI [] d_Author_D).length (apI [] d_Author_D)) d_Author_U)) d_Id).length (apI (List.take (apI (List.take (apI [] d_Author_D).length (apI [] d_Author_D)) d_Author_U).length (apI (List.take (apI [] d_Author_D).length (apI [] d_Author_D)) d_Author_U)) d_Id)) d_Version).length + (List.take 32 d_Hash).length) (List.take (apI (List.take (apI (List.take (apI (List.take (apI [] d_Author_D).length (apI [] d_Author_D)) d_Author_U).length (apI (List.take (apI [] d_Author_D).length (apI [] d_Author_D)) d_Author_U)) d_Id).length (apI (List.take (apI (List.take (apI [] d_Author_D).length (apI [] d_Author_D)) d_Author_U).length (apI (List.take (apI [] d_Author_D).length (apI [] d_Author_D)) d_Author_U)) d_Id)) d_Version).length (apI (List.take (apI (List.take (apI (List.take (apI [] d_Author_D).length (apI [] d_Author_D)) d_Author_U).length (apI (List.take (apI [] d_Author_D).length (apI [] d_Author_D)) d_Author_U)) d_Id).length (apI (List.take (apI (List.take (apI [] d_Author_D).length (apI [] d_Author_D)) d_Author_U).length (apI (List.take (apI [] d_Author_D).length (apI [] d_Author_D)) d_Author_U)) d_Id)) d_Version) ++ List.take 32 d_Hash)) d_Kind)) (ByteArray.mk (Array.mk (Jl (false, pu IntKind.u8 (opB d_Op)).snd))))) d_Who_D).length (apI (List.take (apT (List.take (apY (List.take ((apI (List.take (apI (List.take (apI (List.take (apI [] d_Author_D).length (apI [] d_Author_D)) d_Author_U).length (apI (List.take (apI [] d_Author_D).length (apI [] d_Author_D)) d_Author_U)) d_Id).length (apI (List.take (apI (List.take (apI [] d_Author_D).length (apI [] d_Author_D)) d_Author_U).length (apI (List.take (apI [] d_Author_D).length (apI [] d_Author_D)) d_Author_U)) d_Id)) d_Version).length + (List.take 32 d_Hash).length) (List.take (apI (List.take (apI (List.take (apI (List.take (apI [] d_Author_D).length (apI [] d_Author_D)) d_Author_U).length (apI (List.take (apI [] d_Author_D).length (apI [] d_Author_D)) d_Author_U)) d_Id).length (apI (List.take (apI (List.take (apI [] d_Author_D).length (apI [] d_Author_D)) d_Author_U).length (apI (List.take (apI [] d_Author_D).length (apI [] d_Author_D)) d_Author_U)) d_Id)) d_Version).length (apI (List.take (apI (List.take (apI (List.take (apI [] d_Author_D).length (apI [] d_Author_D)) d_Author_U).length (apI (List.take (apI [] d_Author_D).length (apI [] d_Author_D)) d_Author_U)) d_Id).length (apI (List.take (apI (List.take (apI [] d_Author_D).length (apI [] d_Author_D)) d_Author_U).length (apI (List.take (apI [] d_Author_D).length (apI [] d_Author_D)) d_Author_U)) d_Id)) d_Version) ++ List.take 32 d_Hash)) d_Kind).length (apY (List.take ((apI (List.take (apI (List.take (apI (List.take (apI [] d_Author_D).length (apI [] d_Author_D)) d_Author_U).length (apI (List.take (apI [] d_Author_D).length (apI [] d_Author_D)) d_Author_U)) d_Id).length (apI (List.take (apI (List.take (apI [] d_Author_D).length (apI [] d_Author_D)) d_Author_U).length (apI (List.take (apI [] d_Author_D).length (apI [] d_Author_D)) d_Author_U)) d_Id)) d_Version).length + (List.take 32 d_Hash).length) (List.take (apI (List.take (apI (List.take (apI (List.take (apI [] d_Author_D).length (apI [] d_Author_D)) d_Author_U).length (apI (List.take (apI [] d_Author_D).length (apI [] d_Author_D)) d_Author_U)) d_Id).length (apI (List.take (apI (List.take (apI [] d_Author_D).length (apI [] d_Author_D)) d_Author_U).length (apI (List.take (apI [] d_Author_D).length (apI [] d_Author_D)) d_Author_U)) d_Id)) d_Version).length (apI (List.take (apI (List.take (apI (List.take (apI [] d_Author_D).length (apI [] d_Author_D)) d_Author_U).length (apI (List.take (apI [] d_Author_D).length (apI [] d_Author_D)) d_Author_U)) d_Id).length (apI (List.take (apI (List.take (apI [] d_Author_D).length (apI [] d_Author_D)) d_Author_U).length (apI (List.take (apI [] d_Author_D).length (apI [] d_Author_D)) d_Author_U)) d_Id)) d_Version) ++ List.take 32 d_Hash)) d_Kind)) (ByteArray.mk (Array.mk (Jl (false, pu IntKind.u8 (opB d_Op)).snd)))).length (apT (List.take (apY (List.take ((apI (List.take (apI (List.take (apI (List.take (apI [] d_Author_D).length (apI [] d_Author_D)) d_Author_U).length (apI (List.take (apI [] d_Author_D).length (apI [] d_Author_D)) d_Author_U)) d_Id).length (apI (List.take (apI (List.take (apI [] d_Author_D).length (apI [] d_Author_D)) d_Author_U).length (apI (List.take (apI [] d_Author_D).length (apI [] d_Author_D)) d_Author_U)) d_Id)) d_Version).length + (List.take 32 d_Hash).length) (List.take (apI (List.take (apI (List.take (apI (List.take (apI [] d_Author_D).length (apI [] d_Author_D)) d_Author_U).length (apI (List.take (apI [] d_Author_D).length (apI [] d_Author_D)) d_Author_U)) d_Id).length (apI (List.take (apI (List.take (apI [] d_Author_D).length (apI [] d_Author_D)) d_Author_U).length (apI (List.take (apI [] d_Author_D).length (apI [] d_Author_D)) d_Author_U)) d_Id)) d_Version).length (apI (List.take (apI (List.take (apI (List.take (apI [] d_Author_D).length (apI [] d_Author_D)) d_Author_U).length (apI (List.take (apI [] d_Author_D).length (apI [] d_Author_D)) d_Author_U)) d_Id).length (apI (List.take (apI (List.take (apI [] d_Author_D).length (apI [] d_Author_D)) d_Author_U).length (apI (List.take (apI [] d_Author_D).length (apI [] d_Author_D)) d_Author_U)) d_Id)) d_Version) ++ List.take 32 d_Hash)) d_Kind).length (apY (List.take ((apI (List.take (apI (List.take (apI (List.take (apI [] d_Author_D).length (apI [] d_Author_D)) d_Author_U).length (apI (List.take (apI [] d_Author_D).length (apI [] d_Author_D)) d_Author_U)) d_Id).length (apI (List.take (apI (List.take (apI [] d_Author_D).length (apI [] d_Author_D)) d_Author_U).length (apI (List.take (apI [] d_Author_D).length (apI [] d_Author_D)) d_Author_U)) d_Id)) d_Version).length + (List.take 32 d_Hash).length) (List.take (apI (List.take (apI (List.take (apI (List.take (apI [] d_Author_D).length (apI [] d_Author_D)) d_Author_U).length (apI (List.take (apI [] d_Author_D).length (apI [] d_Author_D)) d_Author_U)) d_Id).length (apI (List.take (apI (List.take (apI [] d_Author_D).length (apI [] d_Author_D)) d_Author_U).length (apI (List.take (apI [] d_Author_D).length (apI [] d_Author_D)) d_Author_U)) d_Id)) d_Version).length (apI (List.take (apI (List.take (apI (List.take (apI [] d_Author_D).length (apI [] d_Author_D)) d_Author_U).length (apI (List.take (apI [] d_Author_D).length (apI [] d_Author_D)) d_Author_U)) d_Id).length (apI (List.take (apI (List.take (apI [] d_Author_D).length (apI [] d_Author_D)) d_Author_U).length (apI (List.take (apI [] d_Author_D).length (apI [] d_Author_D)) d_Author_U)) d_Id)) d_Version) ++ List.take 32 d_Hash)) d_Kind)) (ByteArray.mk (Array.mk (Jl (false, pu IntKind.u8 (opB d_Op)).snd))))) d_Who_D)) then k (Res.mk (.ro 5 false false (List.take (apI (List.take (apI (List.take (apT (List.take (apY (List.take ((apI (List.take (apI (List.take (apI (List.take (apI [] d_Author_D).length (apI [] d_Author_D)) d_Author_U).length (apI (List.take (apI [] d_Author_D).length (apI [] d_Author_D)) d_Author_U)) d_Id).length (apI (List.take (apI (List.take (apI [] d_Author_D).length (apI [] d_Author_D)) d_Author_U).length (apI (List.take (apI [] d_Author_D).length (apI [] d_Author_D)) d_Author_U)) d_Id)) d_Version).length + (List.take 32 d_Hash).length) (List.take (apI (List.take (apI (List.take (apI (List.take (apI [] d_Author_D).length (apI [] d_Author_D)) d_Author_U).length (apI (List.take (apI [] d_Author_D).length (apI [] d_Author_D)) d_Author_U)) d_Id).length (apI (List.take (apI (List.take (apI [] d_Author_D).length (apI [] d_Author_D)) d_Author_U).length (apI (List.take (apI [] d_Author_D).length (apI [] d_Author_D)) d_Author_U)) d_Id)) d_Version).length (apI (List.take (apI (List.take (apI (List.take (apI [] d_Author_D).length (apI [] d_Author_D)) d_Author_U).length (apI (List.take (apI [] d_Author_D).length (apI [] d_Author_D)) d_Author_U)) d_Id).length (apI (List.take (apI (List.take (apI [] d_Author_D).length (apI [] d_Author_D)) d_Author_U).length (apI (List.take (apI [] d_Author_D).length (apI [] d_Author_D)) d_Author_U)) d_Id)) d_Version) ++ List.take 32 d_Hash)) d_Kind).length (apY (List.take ((apI (List.take (apI (List.take (apI (List.take (apI [] d_Author_D).length (apI [] d_Author_D)) d_Author_U).length (apI (List.take (apI [] d_Author_D).length (apI [] d_Author_D)) d_Author_U)) d_Id).length (apI (List.take (apI (List.take (apI [] d_Author_D).length (apI [] d_Author_D)) d_Author_U).length (apI (List.take (apI [] d_Author_D).length (apI [] d_Author_D)) d_Author_U)) d_Id)) d_Version).length + (List.take 32 d_Hash).length) (List.take (apI (List.take (apI (List.take (apI (List.take (apI [] d_Author_D).length (apI [] d_Author_D)) d_Author_U).length (apI (List.take (apI [] d_Author_D).length (apI [] d_Author_D)) d_Author_U)) d_Id).length (apI (List.take (apI (List.take (apI [] d_Author_D).length (apI [] d_Author_D)) d_Author_U).length (apI (List.take (apI [] d_Author_D).length (apI [] d_Author_D)) d_Author_U)) d_Id)) d_Version).length (apI (List.take (apI (List.take (apI (List.take (apI [] d_Author_D).length (apI [] d_Author_D)) d_Author_U).length (apI (List.take (apI [] d_Author_D).length (apI [] d_Author_D)) d_Author_U)) d_Id).length (apI (List.take (apI (List.take (apI [] d_Author_D).length (apI [] d_Author_D)) d_Author_U).length (apI (List.take (apI [] d_Author_D).length (apI [] d_Author_D)) d_Author_U)) d_Id)) d_Version) ++ List.take 32 d_Hash)) d_Kind)) (ByteArray.mk (Array.mk (Jl (false, pu IntKind.u8 (opB d_Op)).snd)))).length (apT (List.take (apY (List.take ((apI (List.take (apI (List.take (apI (List.take (apI [] d_Author_D).length (apI [] d_Author_D)) d_Author_U).length (apI (List.take (apI [] d_Author_D).length (apI [] d_Author_D)) d_Author_U)) d_Id).length (apI (List.take (apI (List.take (apI [] d_Author_D).length (apI [] d_Author_D)) d_Author_U).length (apI (List.take (apI [] d_Author_D).length (apI [] d_Author_D)) d_Author_U)) d_Id)) d_Version).length + (List.take 32 d_Hash).length) (List.take (apI (List.take (apI (List.take (apI (List.take (apI [] d_Author_D).length (apI [] d_Author_D)) d_Author_U).length (apI (List.take (apI [] d_Author_D).length (apI [] d_Author_D)) d_Author_U)) d_Id).length (apI (List.take (apI (List.take (apI [] d_Author_D).length (apI [] d_Author_D)) d_Author_U).length (apI (List.take (apI [] d_Author_D).length (apI [] d_Author_D)) d_Author_U)) d_Id)) d_Version).length (apI (List.take (apI (List.take (apI (List.take (apI [] d_Author_D).length (apI [] d_Author_D)) d_Author_U).length (apI (List.take (apI [] d_Author_D).length (apI [] d_Author_D)) d_Author_U)) d_Id).length (apI (List.take (apI (List.take (apI [] d_Author_D).length (apI [] d_Author_D)) d_Author_U).length (apI (List.take (apI [] d_Author_D).length (apI [] d_Author_D)) d_Author_U)) d_Id)) d_Version) ++ List.take 32 d_Hash)) d_Kind).length (apY (List.take ((apI (List.take (apI (List.take (apI (List.take (apI [] d_Author_D).length (apI [] d_Author_D)) d_Author_U).length (apI (List.take (apI [] d_Author_D).length (apI [] d_Author_D)) d_Author_U)) d_Id).length (apI (List.take (apI (List.take (apI [] d_Author_D).length (apI [] d_Author_D)) d_Author_U).length (apI (List.take (apI [] d_Author_D).length (apI [] d_Author_D)) d_Author_U)) d_Id)) d_Version).length + (List.take 32 d_Hash).length) (List.take (apI (List.take (apI (List.take (apI (List.take (apI [] d_Author_D).length (apI [] d_Author_D)) d_Author_U).length (apI (List.take (apI [] d_Author_D).length (apI [] d_Author_D)) d_Author_U)) d_Id).length (apI (List.take (apI (List.take (apI [] d_Author_D).length (apI [] d_Author_D)) d_Author_U).length (apI (List.take (apI [] d_Author_D).length (apI [] d_Author_D)) d_Author_U)) d_Id)) d_Version).length (apI (List.take (apI (List.take (apI (List.take (apI [] d_Author_D).length (apI [] d_Author_D)) d_Author_U).length (apI (List.take (apI [] d_Author_D).length (apI [] d_Author_D)) d_Author_U)) d_Id).length (apI (List.take (apI (List.take (apI [] d_Author_D).length (apI [] d_Author_D)) d_Author_U).length (apI (List.take (apI [] d_Author_D).length (apI [] d_Author_D)) d_Author_U)) d_Id)) d_Version) ++ List.take 32 d_Hash)) d_Kind)) (ByteArray.mk (Array.mk (Jl (false, pu IntKind.u8 (opB d_Op)).snd))))) d_Who_D).length (apI (List.take (apT (List.take (apY (List.take ((apI (List.take (apI (List.take (apI (List.take (apI [] d_Author_D).length (apI [] d_Author_D)) d_Author_U).length (apI (List.take (apI [] d_Author_D).length (apI [] d_Author_D)) d_Author_U)) d_Id).length (apI (List.take (apI (List.take (apI [] d_Author_D).length (apI [] d_Author_D)) d_Author_U).length (apI (List.take (apI [] d_Author_D).length (apI [] d_Author_D)) d_Author_U)) d_Id)) d_Version).length + (List.take 32 d_Hash).length) (List.take (apI (List.take (apI (List.take (apI (List.take (apI [] d_Author_D).length (apI [] d_Author_D)) d_Author_U).length (apI (List.take (apI [] d_Author_D).length (apI [] d_Author_D)) d_Author_U)) d_Id).length (apI (List.take (apI (List.take (apI [] d_Author_D).length (apI [] d_Author_D)) d_Author_U).length (apI (List.take (apI [] d_Author_D).length (apI [] d_Author_D)) d_Author_U)) d_Id)) d_Version).length (apI (List.take (apI (List.take (apI (List.take (apI [] d_Author_D).length (apI [] d_Author_D)) d_Author_U).length (apI (List.take (apI [] d_Author_D).length (apI [] d_Author_D)) d_Author_U)) d_Id).length (apI (List.take (apI (List.take (apI [] d_Author_D).length (apI [] d_Author_D)) d_Author_U).length (apI (List.take (apI [] d_Author_D).length (apI [] d_Author_D)) d_Author_U)) d_Id)) d_Version) ++ List.take 32 d_Hash)) d_Kind).length (apY (List.take ((apI (List.take (apI (List.take (apI (List.take (apI [] d_Author_D).length (apI [] d_Author_D)) d_Author_U).length (apI (List.take (apI [] d_Author_D).length (apI [] d_Author_D)) d_Author_U)) d_Id).length (apI (List.take (apI (List.take (apI [] d_Author_D).length (apI [] d_Author_D)) d_Author_U).length (apI (List.take (apI [] d_Author_D).length (apI [] d_Author_D)) d_Author_U)) d_Id)) d_Version).length + (List.take 32 d_Hash).length) (List.take (apI (List.take (apI (List.take (apI (List.take (apI [] d_Author_D).length (apI [] d_Author_D)) d_Author_U).length (apI (List.take (apI [] d_Author_D).length (apI [] d_Author_D)) d_Author_U)) d_Id).length (apI (List.take (apI (List.take (apI [] d_Author_D).length (apI [] d_Author_D)) d_Author_U).length (apI (List.take (apI [] d_Author_D).length (apI [] d_Author_D)) d_Author_U)) d_Id)) d_Version).length (apI (List.take (apI (List.take (apI (List.take (apI [] d_Author_D).length (apI [] d_Author_D)) d_Author_U).length (apI (List.take (apI [] d_Author_D).length (apI [] d_Author_D)) d_Author_U)) d_Id).length (apI (List.take (apI (List.take (apI [] d_Author_D).length (apI [] d_Author_D)) d_Author_U).length (apI (List.take (apI [] d_Author_D).length (apI [] d_Author_D)) d_Author_U)) d_Id)) d_Version) ++ List.take 32 d_Hash)) d_Kind)) (ByteArray.mk (Array.mk (Jl (false, pu IntKind.u8 (opB d_Op)).snd)))).length (apT (List.take (apY (List.take ((apI (List.take (apI (List.take (apI (List.take (apI [] d_Author_D).length (apI [] d_Author_D)) d_Author_U).length (apI (List.take (apI [] d_Author_D).length (apI [] d_Author_D)) d_Author_U)) d_Id).length (apI (List.take (apI (List.take (apI [] d_Author_D).length (apI [] d_Author_D)) d_Author_U).length (apI (List.take (apI [] d_Author_D).length (apI [] d_Author_D)) d_Author_U)) d_Id)) d_Version).length + (List.take 32 d_Hash).length) (List.take (apI (List.take (apI (List.take (apI (List.take (apI [] d_Author_D).length (apI [] d_Author_D)) d_Author_U).length (apI (List.take (apI [] d_Author_D).length (apI [] d_Author_D)) d_Author_U)) d_Id).length (apI (List.take (apI (List.take (apI [] d_Author_D).length (apI [] d_Author_D)) d_Author_U).length (apI (List.take (apI [] d_Author_D).length (apI [] d_Author_D)) d_Author_U)) d_Id)) d_Version).length (apI (List.take (apI (List.take (apI (List.take (apI [] d_Author_D).length (apI [] d_Author_D)) d_Author_U).length (apI (List.take (apI [] d_Author_D).length (apI [] d_Author_D)) d_Author_U)) d_Id).length (apI (List.take (apI (List.take (apI [] d_Author_D).length (apI [] d_Author_D)) d_Author_U).length (apI (List.take (apI [] d_Author_D).length (apI [] d_Author_D)) d_Author_U)) d_Id)) d_Version) ++ List.take 32 d_Hash)) d_Kind).length (apY (List.take ((apI (List.take (apI (List.take (apI (List.take (apI [] d_Author_D).length (apI [] d_Author_D)) d_Author_U).length (apI (List.take (apI [] d_Author_D).length (apI [] d_Author_D)) d_Author_U)) d_Id).length (apI (List.take (apI (List.take (apI [] d_Author_D).length (apI [] d_Author_D)) d_Author_U).length (apI (List.take (apI [] d_Author_D).length (apI [] d_Author_D)) d_Author_U)) d_Id)) d_Version).length + (List.take 32 d_Hash).length) (List.take (apI (List.take (apI (List.take (apI (List.take (apI [] d_Author_D).length (apI [] d_Author_D)) d_Author_U).length (apI (List.take (apI [] d_Author_D).length (apI [] d_Author_D)) d_Author_U)) d_Id).length (apI (List.take (apI (List.take (apI [] d_Author_D).length (apI [] d_Author_D)) d_Author_U).length (apI (List.take (apI [] d_Author_D).length (apI [] d_Author_D)) d_Author_U)) d_Id)) d_Version).length (apI (List.take (apI (List.take (apI (List.take (apI [] d_Author_D).length (apI [] d_Author_D)) d_Author_U).length (apI (List.take (apI [] d_Author_D).length (apI [] d_Author_D)) d_Author_U)) d_Id).length (apI (List.take (apI (List.take (apI [] d_Author_D).length (apI [] d_Author_D)) d_Author_U).length (apI (List.take (apI [] d_Author_D).length (apI [] d_Author_D)) d_Author_U)) d_Id)) d_Version) ++ List.take 32 d_Hash)) d_Kind)) (ByteArray.mk (Array.mk (Jl (false, pu IntKind.u8 (opB d_Op)).snd))))) d_Who_D)) d_Who_U).length (apI (List.take (apI (List.take (apT (List.take (apY (List.take ((apI (List.take (apI (List.take (apI (List.take (apI [] d_Author_D).length (apI [] d_Author_D)) d_Author_U).length (apI (List.take (apI [] d_Author_D).length (apI [] d_Author_D)) d_Author_U)) d_Id).length (apI (List.take (apI (List.take (apI [] d_Author_D).length (apI [] d_Author_D)) d_Author_U).length (apI (List.take (apI [] d_Author_D).length (apI [] d_Author_D)) d_Author_U)) d_Id)) d_Version).length + (List.take 32 d_Hash).length) (List.take (apI (List.take (apI (List.take (apI (List.take (apI [] d_Author_D).length (apI [] d_Author_D)) d_Author_U).length (apI (List.take (apI [] d_Author_D).length (apI [] d_Author_D)) d_Author_U)) d_Id).length (apI (List.take (apI (List.take (apI [] d_Author_D).length (apI [] d_Author_D)) d_Author_U).length (apI (List.take (apI [] d_Author_D).length (apI [] d_Author_D)) d_Author_U)) d_Id)) d_Version).length (apI (List.take (apI (List.take (apI (List.take (apI [] d_Author_D).length (apI [] d_Author_D)) d_Author_U).length (apI (List.take (apI [] d_Author_D).length (apI [] d_Author_D)) d_Author_U)) d_Id).length (apI (List.take (apI (List.take (apI [] d_Author_D).length (apI [] d_Author_D)) d_Author_U).length (apI (List.take (apI [] d_Author_D).length (apI [] d_Author_D)) d_Author_U)) d_Id)) d_Version) ++ List.take 32 d_Hash)) d_Kind).length (apY (List.take ((apI (List.take (apI (List.take (apI (List.take (apI [] d_Author_D).length (apI [] d_Author_D)) d_Author_U).length (apI (List.take (apI [] d_Author_D).length (apI [] d_Author_D)) d_Author_U)) d_Id).length (apI (List.take (apI (List.take (apI [] d_Author_D).length (apI [] d_Author_D)) d_Author_U).length (apI (List.take (apI [] d_Author_D).length (apI [] d_Author_D)) d_Author_U)) d_Id)) d_Version).length + (List.take 32 d_Hash).length) (List.take (apI (List.take (apI (List.take (apI (List.take (apI [] d_Author_D).length (apI [] d_Author_D)) d_Author_U).length (apI (List.take (apI [] d_Author_D).length (apI [] d_Author_D)) d_Author_U)) d_Id).length (apI (List.take (apI (List.take (apI [] d_Author_D).length (apI [] d_Author_D)) d_Author_U).length (apI (List.take (apI [] d_Author_D).length (apI [] d_Author_D)) d_Author_U)) d_Id)) d_Version).length (apI (List.take (apI (List.take (apI (List.take (apI [] d_Author_D).length (apI [] d_Author_D)) d_Author_U).length (apI (List.take (apI [] d_Author_D).length (apI [] d_Author_D)) d_Author_U)) d_Id).length (apI (List.take (apI (List.take (apI [] d_Author_D).length (apI [] d_Author_D)) d_Author_U).length (apI (List.take (apI [] d_Author_D).length (apI [] d_Author_D)) d_Author_U)) d_Id)) d_Version) ++ List.take 32 d_Hash)) d_Kind)) (ByteArray.mk (Array.mk (Jl (false, pu IntKind.u8 (opB d_Op)).snd)))).length (apT (List.take (apY (List.take ((apI (List.take (apI (List.take (apI (List.take (apI [] d_Author_D).length (apI [] d_Author_D)) d_Author_U).length (apI (List.take (apI [] d_Author_D).length (apI [] d_Author_D)) d_Author_U)) d_Id).length (apI (List.take (apI (List.take (apI [] d_Author_D).length (apI [] d_Author_D)) d_Author_U).length (apI (List.take (apI [] d_Author_D).length (apI [] d_Author_D)) d_Author_U)) d_Id)) d_Version).length + (List.take 32 d_Hash).length) (List.take (apI (List.take (apI (List.take (apI (List.take (apI [] d_Author_D).length (apI [] d_Author_D)) d_Author_U).length (apI (List.take (apI [] d_Author_D).length (apI [] d_Author_D)) d_Author_U)) d_Id).length (apI (List.take (apI (List.take (apI [] d_Author_D).length (apI [] d_Author_D)) d_Author_U).length (apI (List.take (apI [] d_Author_D).length (apI [] d_Author_D)) d_Author_U)) d_Id)) d_Version).length (apI (List.take (apI (List.take (apI (List.take (apI [] d_Author_D).length (apI [] d_Author_D)) d_Author_U).length (apI (List.take (apI [] d_Author_D).length (apI [] d_Author_D)) d_Author_U)) d_Id).length (apI (List.take (apI (List.take (apI [] d_Author_D).length (apI [] d_Author_D)) d_Author_U).length (apI (List.take (apI [] d_Author_D).length (apI [] d_Author_D)) d_Author_U)) d_Id)) d_Version) ++ List.take 32 d_Hash)) d_Kind).length (apY (List.take ((apI (List.take (apI (List.take (apI (List.take (apI [] d_Author_D).length (apI [] d_Author_D)) d_Author_U).length (apI (List.take (apI [] d_Author_D).length (apI [] d_Author_D)) d_Author_U)) d_Id).length (apI (List.take (apI (List.take (apI [] d_Author_D).length (apI [] d_Author_D)) d_Author_U).length (apI (List.take (apI [] d_Author_D).length (apI [] d_Author_D)) d_Author_U)) d_Id)) d_Version).length + (List.take 32 d_Hash).length) (List.take (apI (List.take (apI (List.take (apI (List.take (apI [] d_Author_D).length (apI [] d_Author_D)) d_Author_U).length (apI (List.take (apI [] d_Author_D).length (apI [] d_Author_D)) d_Author_U)) d_Id).length (apI (List.take (apI (List.take (apI [] d_Author_D).length (apI [] d_Author_D)) d_Author_U).length (apI (List.take (apI [] d_Author_D).length (apI [] d_Author_D)) d_Author_U)) d_Id)) d_Version).length (apI (List.take (apI (List.take (apI (List.take (apI [] d_Author_D).length (apI [] d_Author_D)) d_Author_U).length (apI (List.take (apI [] d_Author_D).length (apI [] d_Author_D)) d_Author_U)) d_Id).length (apI (List.take (apI (List.take (apI [] d_Author_D).length (apI [] d_Author_D)) d_Author_U).length (apI (List.take (apI [] d_Author_D).length (apI [] d_Author_D)) d_Author_U)) d_Id)) d_Version) ++ List.take 32 d_Hash)) d_Kind)) (ByteArray.mk (Array.mk (Jl (false, pu IntKind.u8 (opB d_Op)).snd))))) d_Who_D).length (apI (List.take (apT (List.take (apY (List.take ((apI (List.take (apI (List.take (apI (List.take (apI [] d_Author_D).length (apI [] d_Author_D)) d_Author_U).length (apI (List.take (apI [] d_Author_D).length (apI [] d_Author_D)) d_Author_U)) d_Id).length (apI (List.take (apI (List.take (apI [] d_Author_D).length (apI [] d_Author_D)) d_Author_U).length (apI (List.take (apI [] d_Author_D).length (apI [] d_Author_D)) d_Author_U)) d_Id)) d_Version).length + (List.take 32 d_Hash).length) (List.take (apI (List.take (apI (List.take (apI (List.take (apI [] d_Author_D).length (apI [] d_Author_D)) d_Author_U).length (apI (List.take (apI [] d_Author_D).length (apI [] d_Author_D)) d_Author_U)) d_Id).length (apI (List.take (apI (List.take (apI [] d_Author_D).length (apI [] d_Author_D)) d_Author_U).length (apI (List.take (apI [] d_Author_D).length (apI [] d_Author_D)) d_Author_U)) d_Id)) d_Version).length (apI (List.take (apI (List.take (apI (List.take (apI [] d_Author_D).length (apI [] d_Author_D)) d_Author_U).length (apI (List.take (apI [] d_Author_D).length (apI [] d_Author_D)) d_Author_U)) d_Id).length (apI (List.take (apI (List.take (apI [] d_Author_D).length (apI [] d_Author_D)) d_Author_U).length (apI (List.take (apI [] d_Author_D).length (apI [] d_Author_D)) d_Author_U)) d_Id)) d_Version) ++ List.take 32 d_Hash)) d_Kind).length (apY (List.take ((apI (List.take (apI (List.take (apI (List.take (apI [] d_Author_D).length (apI [] d_Author_D)) d_Author_U).length (apI (List.take (apI [] d_Author_D).length (apI [] d_Author_D)) d_Author_U)) d_Id).length (apI (List.take (apI (List.take (apI [] d_Author_D).length (apI [] d_Author_D)) d_Author_U).length (apI (List.take (apI [] d_Author_D).length (apI [] d_Author_D)) d_Author_U)) d_Id)) d_Version).length + (List.take 32 d_Hash).length) (List.take (apI (List.take (apI (List.take (apI (List.take (apI [] d_Author_D).length (apI [] d_Author_D)) d_Author_U).length (apI (List.take (apI [] d_Author_D).length (apI [] d_Author_D)) d_Author_U)) d_Id).length (apI (List.take (apI (List.take (apI [] d_Author_D).length (apI [] d_Author_D)) d_Author_U).length (apI (List.take (apI [] d_Author_D).length (apI [] d_Author_D)) d_Author_U)) d_Id)) d_Version).length (apI (List.take (apI (List.take (apI (List.take (apI [] d_Author_D).length (apI [] d_Author_D)) d_Author_U).length (apI (List.take (apI [] d_Author_D).length (apI [] d_Author_D)) d_Author_U)) d_Id).length (apI (List.take (apI (List.take (apI [] d_Author_D).length (apI [] d_Author_D)) d_Author_U).length (apI (List.take (apI [] d_Author_D).length (apI [] d_Author_D)) d_Author_U)) d_Id)) d_Version) ++ List.take 32 d_Hash)) d_Kind)) (ByteArray.mk (Array.mk (Jl (false, pu IntKind.u8 (opB d_Op)).snd)))).length (apT (List.take (apY (List.take ((apI (List.take (apI (List.take (apI (List.take (apI [] d_Author_D).length (apI [] d_Author_D)) d_Author_U).length (apI (List.take (apI [] d_Author_D).length (apI [] d_Author_D)) d_Author_U)) d_Id).length (apI (List.take (apI (List.take (apI [] d_Author_D).length (apI [] d_Author_D)) d_Author_U).length (apI (List.take (apI [] d_Author_D).length (apI [] d_Author_D)) d_Author_U)) d_Id)) d_Version).length + (List.take 32 d_Hash).length) (List.take (apI (List.take (apI (List.take (apI (List.take (apI [] d_Author_D).length (apI [] d_Author_D)) d_Author_U).length (apI (List.take (apI [] d_Author_D).length (apI [] d_Author_D)) d_Author_U)) d_Id).length (apI (List.take (apI (List.take (apI [] d_Author_D).length (apI [] d_Author_D)) d_Author_U).length (apI (List.take (apI [] d_Author_D).length (apI [] d_Author_D)) d_Author_U)) d_Id)) d_Version).length (apI (List.take (apI (List.take (apI (List.take (apI [] d_Author_D).length (apI [] d_Author_D)) d_Author_U).length (apI (List.take (apI [] d_Author_D).length (apI [] d_Author_D)) d_Author_U)) d_Id).length (apI (List.take (apI (List.take (apI [] d_Author_D).length (apI [] d_Author_D)) d_Author_U).length (apI (List.take (apI [] d_Author_D).length (apI [] d_Author_D)) d_Author_U)) d_Id)) d_Version) ++ List.take 32 d_Hash)) d_Kind).length (apY (List.take ((apI (List.take (apI (List.take (apI (List.take (apI [] d_Author_D).length (apI [] d_Author_D)) d_Author_U).length (apI (List.take (apI [] d_Author_D).length (apI [] d_Author_D)) d_Author_U)) d_Id).length (apI (List.take (apI (List.take (apI [] d_Author_D).length (apI [] d_Author_D)) d_Author_U).length (apI (List.take (apI [] d_Author_D).length (apI [] d_Author_D)) d_Author_U)) d_Id)) d_Version).length + (List.take 32 d_Hash).length) (List.take (apI (List.take (apI (List.take (apI (List.take (apI [] d_Author_D).length (apI [] d_Author_D)) d_Author_U).length (apI (List.take (apI [] d_Author_D).length (apI [] d_Author_D)) d_Author_U)) d_Id).length (apI (List.take (apI (List.take (apI [] d_Author_D).length (apI [] d_Author_D)) d_Author_U).length (apI (List.take (apI [] d_Author_D).length (apI [] d_Author_D)) d_Author_U)) d_Id)) d_Version).length (apI (List.take (apI (List.take (apI (List.take (apI [] d_Author_D).length (apI [] d_Author_D)) d_Author_U).length (apI (List.take (apI [] d_Author_D).length (apI [] d_Author_D)) d_Author_U)) d_Id).length (apI (List.take (apI (List.take (apI [] d_Author_D).length (apI [] d_Author_D)) d_Author_U).length (apI (List.take (apI [] d_Author_D).length (apI [] d_Author_D)) d_Author_U)) d_Id)) d_Version) ++ List.take 32 d_Hash)) d_Kind)) (ByteArray.mk (Array.mk (Jl (false, pu IntKind.u8 (opB d_Op)).snd))))) d_Who_D)) d_Who_U))) [] []) else none else none else none else none else none else none else none else none else none else none else none
theorem JAe (f : Nat) (d_Author_D : Int) (d_Author_U : Int) (d_Id : Int) (d_Version : Int) (d_Hash : List PV) (d_Kind : Int) (d_Op_z : Bool) (d_Op_f : Bool) (d_Op : List PV) (d_Who_D : Int) (d_Who_U : Int) (k : Res → Option Res) : JN tau JwT Try.f101 (Try.f101.body.get!) Jiz [.ro] 6 [.st 73 [.st 45 [.sc (.int .i64 d_Author_D), .sc (.int .i64 d_Author_U)], .sc (.int .i64 d_Id), .sc (.int .i64 d_Version), .ar 37 d_Hash, .sc (.int .i64 d_Kind), .ro 99 d_Op_z d_Op_f d_Op, .st 45 [.sc (.int .i64 d_Who_D), .sc (.int .i64 d_Who_U)]]] [] k = JsK f d_Author_D d_Author_U d_Id d_Version d_Hash d_Kind d_Op_z d_Op_f d_Op d_Who_D d_Who_U k := by kernel_rfl
theorem JwU (f : Nat) : Ji (Try.f101.body.get!) Jiz = [] := by kernel_rfl
theorem JwV (f : Nat) : ∀ q ∈ Ji (Try.f101.body.get!) Jiz, q.Ok tau Try.prog 0 := by
  rw [JwU f]; intro q hq; cases hq
theorem Jql : Try.prog.funcs[101]? = some Try.f101 := by kernel_rfl
theorem Jqm : Try.f101.body = some (Try.f101.body.get!) := by kernel_rfl
theorem JwW : Enters Try.prog 101 := enters_of Jql (by kernel_rfl) Jqm

noncomputable def F58 : Fns := JH 114 Jlx (JH 98 JnF (JH 97 Jsw (F0)))
theorem JsL : JA tau Try.prog F58 := (((JJ).add Jp6 Jr8).add Jlf Jr3).add Jly Jqb
def JnV : An := (.seq .leaf (.seq .leaf (.seq .leaf .leaf)))
noncomputable def g58 (f : Nat) (e_S_Body_z : Bool) (e_S_Body_f : Bool) (e_S_Body : List PV) (e_S_Mac : List PV) (e_At : Int) (e_Op_z : Bool) (e_Op_f : Bool) (e_Op : List PV) (e_Hash : List PV) (e_Mac : List PV) (k : Res → Option Res) : Option Res := bif Jd IntKind.u8 e_S_Body && true then bif okZ true [] && (ByteArray.mk (Array.mk (Jl (e_S_Body_z, e_S_Body).snd))).size.ble 65535 then bif Jj ((apT [] (ByteArray.mk (Array.mk (Jl (e_S_Body_z, e_S_Body).snd)))).length + (List.take 32 e_S_Mac).length) 1 && true then bif okZ false (List.take ((apT [] (ByteArray.mk (Array.mk (Jl (e_S_Body_z, e_S_Body).snd)))).length + (List.take 32 e_S_Mac).length) (List.take (apT [] (ByteArray.mk (Array.mk (Jl (e_S_Body_z, e_S_Body).snd)))).length (apT [] (ByteArray.mk (Array.mk (Jl (e_S_Body_z, e_S_Body).snd)))) ++ List.take 32 e_S_Mac)) then bif cBy e_Op then bif Jd IntKind.u8 (pu IntKind.u8 (opB e_Op)) && true then bif okZ false (List.take (apI (List.take ((apT [] (ByteArray.mk (Array.mk (Jl (e_S_Body_z, e_S_Body).snd)))).length + (List.take 32 e_S_Mac).length) (List.take (apT [] (ByteArray.mk (Array.mk (Jl (e_S_Body_z, e_S_Body).snd)))).length (apT [] (ByteArray.mk (Array.mk (Jl (e_S_Body_z, e_S_Body).snd)))) ++ List.take 32 e_S_Mac)) e_At).length (apI (List.take ((apT [] (ByteArray.mk (Array.mk (Jl (e_S_Body_z, e_S_Body).snd)))).length + (List.take 32 e_S_Mac).length) (List.take (apT [] (ByteArray.mk (Array.mk (Jl (e_S_Body_z, e_S_Body).snd)))).length (apT [] (ByteArray.mk (Array.mk (Jl (e_S_Body_z, e_S_Body).snd)))) ++ List.take 32 e_S_Mac)) e_At)) && (ByteArray.mk (Array.mk (Jl (false, pu IntKind.u8 (opB e_Op)).snd))).size.ble 65535 then k (Res.mk (.ro 5 false false (List.take (apT (List.take (apI (List.take ((apT [] (ByteArray.mk (Array.mk (Jl (e_S_Body_z, e_S_Body).snd)))).length + (List.take 32 e_S_Mac).length) (List.take (apT [] (ByteArray.mk (Array.mk (Jl (e_S_Body_z, e_S_Body).snd)))).length (apT [] (ByteArray.mk (Array.mk (Jl (e_S_Body_z, e_S_Body).snd)))) ++ List.take 32 e_S_Mac)) e_At).length (apI (List.take ((apT [] (ByteArray.mk (Array.mk (Jl (e_S_Body_z, e_S_Body).snd)))).length + (List.take 32 e_S_Mac).length) (List.take (apT [] (ByteArray.mk (Array.mk (Jl (e_S_Body_z, e_S_Body).snd)))).length (apT [] (ByteArray.mk (Array.mk (Jl (e_S_Body_z, e_S_Body).snd)))) ++ List.take 32 e_S_Mac)) e_At)) (ByteArray.mk (Array.mk (Jl (false, pu IntKind.u8 (opB e_Op)).snd)))).length (apT (List.take (apI (List.take ((apT [] (ByteArray.mk (Array.mk (Jl (e_S_Body_z, e_S_Body).snd)))).length + (List.take 32 e_S_Mac).length) (List.take (apT [] (ByteArray.mk (Array.mk (Jl (e_S_Body_z, e_S_Body).snd)))).length (apT [] (ByteArray.mk (Array.mk (Jl (e_S_Body_z, e_S_Body).snd)))) ++ List.take 32 e_S_Mac)) e_At).length (apI (List.take ((apT [] (ByteArray.mk (Array.mk (Jl (e_S_Body_z, e_S_Body).snd)))).length + (List.take 32 e_S_Mac).length) (List.take (apT [] (ByteArray.mk (Array.mk (Jl (e_S_Body_z, e_S_Body).snd)))).length (apT [] (ByteArray.mk (Array.mk (Jl (e_S_Body_z, e_S_Body).snd)))) ++ List.take 32 e_S_Mac)) e_At)) (ByteArray.mk (Array.mk (Jl (false, pu IntKind.u8 (opB e_Op)).snd)))))) [] []) else none else none else none else none else none else none else none
theorem e58 (f : Nat) (e_S_Body_z : Bool) (e_S_Body_f : Bool) (e_S_Body : List PV) (e_S_Mac : List PV) (e_At : Int) (e_Op_z : Bool) (e_Op_f : Bool) (e_Op : List PV) (e_Hash : List PV) (e_Mac : List PV) (k : Res → Option Res) : JN tau F58 Try.f58 (Try.f58.body.get!) JnV [.ro] 0 [.st 93 [.st 77 [.ro 5 e_S_Body_z e_S_Body_f e_S_Body, .ar 37 e_S_Mac], .sc (.int .i64 e_At), .ro 99 e_Op_z e_Op_f e_Op, .ar 37 e_Hash, .ar 37 e_Mac]] [] k = g58 f e_S_Body_z e_S_Body_f e_S_Body e_S_Mac e_At e_Op_z e_Op_f e_Op e_Hash e_Mac k := by kernel_rfl
theorem JAf (f : Nat) : Ji (Try.f58.body.get!) JnV = [] := by kernel_rfl
theorem JAg (f : Nat) : ∀ q ∈ Ji (Try.f58.body.get!) JnV, q.Ok tau Try.prog 0 := by
  rw [JAf f]; intro q hq; cases hq
theorem JwX : Try.prog.funcs[58]? = some Try.f58 := by kernel_rfl
theorem JwY : Try.f58.body = some (Try.f58.body.get!) := by kernel_rfl
theorem JsM : Enters Try.prog 58 := enters_of JwX (by kernel_rfl) JwY
noncomputable def F59 : Fns := JH 111 Jqk (JH 109 Jp8 (JH 108 Jp7 (F0)))
theorem JsN : JA tau Try.prog F59 := (((JJ).add Jsy JpW).add Jsz JwG).add JsI JwL
def JnW : An := (.seq .leaf (.seq .leaf (.seq .leaf .leaf)))
noncomputable def g59 (f : Nat) (e_S_Body_z : Bool) (e_S_Body_f : Bool) (e_S_Body : List PV) (e_S_Mac : List PV) (e_At : Int) (e_Op_z : Bool) (e_Op_f : Bool) (e_Op : List PV) (e_Hash : List PV) (e_Mac : List PV) (k : Res → Option Res) : Option Res := bif Jd IntKind.u8 e_S_Body && true then bif (ByteArray.mk (Array.mk (Jl (e_S_Body_z, e_S_Body).snd))).size.ble 65535 then bif Jj ((apT [] (ByteArray.mk (Array.mk (Jl (e_S_Body_z, e_S_Body).snd)))).length + (List.take 32 e_S_Mac).length) 1 && true then bif okL ((apT [] (ByteArray.mk (Array.mk (Jl (e_S_Body_z, e_S_Body).snd)))).length + (List.take 32 e_S_Mac).length) (List.take (apT [] (ByteArray.mk (Array.mk (Jl (e_S_Body_z, e_S_Body).snd)))).length (apT [] (ByteArray.mk (Array.mk (Jl (e_S_Body_z, e_S_Body).snd)))) ++ List.take 32 e_S_Mac) then bif cBy e_Op then bif Jd IntKind.u8 (List.take (opB e_Op).length (pu IntKind.u8 (opB e_Op))) && true then bif okL (apI (List.take (apT [] (ByteArray.mk (Array.mk (Jl (e_S_Body_z, e_S_Body).snd)))).length (apT [] (ByteArray.mk (Array.mk (Jl (e_S_Body_z, e_S_Body).snd)))) ++ List.take 32 e_S_Mac) e_At).length (apI (List.take (apT [] (ByteArray.mk (Array.mk (Jl (e_S_Body_z, e_S_Body).snd)))).length (apT [] (ByteArray.mk (Array.mk (Jl (e_S_Body_z, e_S_Body).snd)))) ++ List.take 32 e_S_Mac) e_At) && (ByteArray.mk (Array.mk (Jl ((Ent.vec false 5 false (pu IntKind.u8 (opB e_Op))).nil, List.take (opB e_Op).length (List.drop 0 (pu IntKind.u8 (opB e_Op)))).snd))).size.ble 65535 then k (Res.mk (.ow 5 16 [] 0 (apT (apI (List.take (apT [] (ByteArray.mk (Array.mk (Jl (e_S_Body_z, e_S_Body).snd)))).length (apT [] (ByteArray.mk (Array.mk (Jl (e_S_Body_z, e_S_Body).snd)))) ++ List.take 32 e_S_Mac) e_At) (ByteArray.mk (Array.mk (Jl ((Ent.vec false 5 false (pu IntKind.u8 (opB e_Op))).nil, List.take (opB e_Op).length (List.drop 0 (pu IntKind.u8 (opB e_Op)))).snd)))).length none) [] [.vec false 5 false (apT (apI (List.take (apT [] (ByteArray.mk (Array.mk (Jl (e_S_Body_z, e_S_Body).snd)))).length (apT [] (ByteArray.mk (Array.mk (Jl (e_S_Body_z, e_S_Body).snd)))) ++ List.take 32 e_S_Mac) e_At) (ByteArray.mk (Array.mk (Jl ((Ent.vec false 5 false (pu IntKind.u8 (opB e_Op))).nil, List.take (opB e_Op).length (List.drop 0 (pu IntKind.u8 (opB e_Op)))).snd))))]) else none else none else none else none else none else none else none
theorem e59 (f : Nat) (e_S_Body_z : Bool) (e_S_Body_f : Bool) (e_S_Body : List PV) (e_S_Mac : List PV) (e_At : Int) (e_Op_z : Bool) (e_Op_f : Bool) (e_Op : List PV) (e_Hash : List PV) (e_Mac : List PV) (k : Res → Option Res) : JN tau F59 Try.f59 (Try.f59.body.get!) JnW [] 0 [.st 93 [.st 77 [.ro 5 e_S_Body_z e_S_Body_f e_S_Body, .ar 37 e_S_Mac], .sc (.int .i64 e_At), .ro 99 e_Op_z e_Op_f e_Op, .ar 37 e_Hash, .ar 37 e_Mac]] [] k = g59 f e_S_Body_z e_S_Body_f e_S_Body e_S_Mac e_At e_Op_z e_Op_f e_Op e_Hash e_Mac k := by kernel_rfl
theorem JAh (f : Nat) : Ji (Try.f59.body.get!) JnW = [] := by kernel_rfl
theorem JAi (f : Nat) : ∀ q ∈ Ji (Try.f59.body.get!) JnW, q.Ok tau Try.prog 0 := by
  rw [JAh f]; intro q hq; cases hq
theorem JwZ : Try.prog.funcs[59]? = some Try.f59 := by kernel_rfl
theorem Jw0 : Try.f59.body = some (Try.f59.body.get!) := by kernel_rfl
theorem JnX : Enters Try.prog 59 := enters_of JwZ (by kernel_rfl) Jw0
-- FN sign.Core | ref9.Core
def tx (l : List PV) : ByteArray := ByteArray.mk (Array.mk (Jl l))
theorem WD (l : List PV) : (tx l).size = l.length := YR l
structure EV where
  (b m : List PV) (at1 : Int) (o : List PV)
noncomputable def Jbp (e : EV) : List Int := Qj (tx e.b) ++ (Jh e.m ++ (J7 e.at1 ++ Qj (tx (pu .u8 (opB e.o)))))
noncomputable def Jg : EV → List Int := hid Jbp
theorem Jbq (e : EV) : Jg e = Jbp e := by rw [Jg, hid_eq]
noncomputable def eOk : EV → Bool := hid fun e => Jd .u8 e.b && (decide (e.b.length ≤ 65535) && (Jd .u8 e.m && (decide (e.m.length = 32) && (cBy e.o && decide ((opB e.o).length ≤ 65535)))))
theorem WE {e : EV} : eOk e = true ↔ Jd .u8 e.b = true ∧ e.b.length ≤ 65535 ∧ Jd .u8 e.m = true ∧ e.m.length = 32 ∧ cBy e.o = true ∧ (opB e.o).length ≤ 65535 := by
  rw [eOk, hid_eq]; simp only [Bool.and_eq_true, decide_eq_true_eq]
theorem X9 {e : EV} (h : eOk e = true) : (Jg e).length = e.b.length + (opB e.o).length + 44 := by
  obtain ⟨h1, h2, h3, h4, h5, h6⟩ := WE.1 h
  rw [Jbq]
  simp only [Jbp, List.length_append, VR, QX, Xc, WD, JG, h4]; omega
theorem Jbr {e : EV} (h : eOk e = true) : apT (apI (apT [] (tx e.b) ++ List.take 32 e.m) e.at1) (tx (pu .u8 (opB e.o))) = pu .u8 (Jg e) := by
  obtain ⟨h1, h2, h3, h4, h5, h6⟩ := WE.1 h
  rw [Jbq, Xp, Y7, Xp, List.take_of_length_le (by omega)]
  simp only [Jbp, JR, List.nil_append, List.append_assoc, ← Qb h3]
noncomputable def JgX : List PV → List Ent → (Res → Option Res) → Option Res
  | [.st 93 [.st 77 [.ro 5 bz bf b, .ar 37 m], .sc (.int .i64 at1), .ro 99 oz of o, .ar 37 h, .ar 37 mc]], [], k => bif eOk ⟨b, m, at1, o⟩ then k ⟨.ro 5 false false (pu .u8 (Jg ⟨b, m, at1, o⟩)), [], []⟩ else none
  | _, _, _ => none
noncomputable def JnY : Sig := { own := [], run := JgX }
theorem JsO (bz bf : Bool) (b m : List PV) (at1 : Int) (oz of : Bool) (o h mc : List PV) (he : eOk ⟨b, m, at1, o⟩ = true) (k : Res → Option Res) : g58 0 bz bf b m at1 oz of o h mc k = k ⟨.ro 5 false false (pu .u8 (Jg ⟨b, m, at1, o⟩)), [], []⟩ := by
  have hl := X9 he
  have hp := Jbr he
  obtain ⟨h1, h2, h3, h4, h5, h6⟩ := WE.1 he
  simp only at hl hp h1 h2 h3 h4 h5 h6
  have ht : ∀ l : List PV, ByteArray.mk (Array.mk (Jl l)) = tx l := fun l => rfl
  have hm : List.take 32 m = m := List.take_of_length_le (by omega)
  have l1 : (apT [] (tx b)).length = b.length + 2 := by rw [Xp]; simp [WD]
  have l2 : ∀ (L : List PV) (n : Int), (apI L n).length = L.length + 8 := ZG
  have htp : ∀ l : List Int, List.take l.length (pu .u8 l) = pu .u8 l := fun l => List.take_of_length_le (by simp)
  have hcat : ∀ n, n = (apT [] (tx b)).length + m.length → List.take n (apT [] (tx b) ++ m) = apT [] (tx b) ++ m := fun n hn => List.take_of_length_le (by simp; omega)
  rw [hm] at hp
  unfold g58
  simp only [ht, hm, List.take_length, htp, List.drop_zero, hcat _ rfl, WD, JG]
  refine (Jb (by rw [h1]; rfl)).trans ((Jb (by rw [Y8]; show (true && _) = true; rw [Bool.true_and, Nat.ble_eq]; exact h2)).trans ((Jb (by simp only [Jj, Nat.mul_one, Bool.and_true, decide_eq_true_eq, l1]; omega)).trans ((Jb (by rw [QR (by rw [List.length_append, l1]; omega)])).trans ((Jb h5).trans ((Jb (by rw [JF]; rfl)).trans ((Jb (by rw [QR (by rw [l2, List.length_append, l1]; omega), Bool.true_and, Nat.ble_eq]; exact h6)).trans ?_))))))
  rw [hp]
  try rfl
theorem Jlz : Jk tau Try.prog 58 JnY := Jk.mk' fun xs es k res hl hr => by
  change JgX xs es k = some res at hr
  unfold JgX at hr
  split at hr
  · rename_i bz bf b m at1 oz of o h mc
    obtain ⟨hc, hr⟩ := JL hr
    exact Qp Js JsL Jt JwX JwY JnV [.ro] 0 0 (JAg 0) hl rfl ((e58 0 bz bf b m at1 oz of o h mc k).trans ((JsO bz bf b m at1 oz of o h mc hc k).trans hr))
  · cases hr
noncomputable def JgY : List PV → List Ent → (Res → Option Res) → Option Res
  | [.st 93 [.st 77 [.ro 5 bz bf b, .ar 37 m], .sc (.int .i64 at1), .ro 99 oz of o, .ar 37 h, .ar 37 mc]], [], k => bif eOk ⟨b, m, at1, o⟩ then k ⟨.ow 5 16 [] 0 (Jg ⟨b, m, at1, o⟩).length none, [], [.vec false 5 false (pu .u8 (Jg ⟨b, m, at1, o⟩))]⟩ else none
  | _, _, _ => none
noncomputable def JlA : Sig := { own := [], run := JgY }
theorem JsP (bz bf : Bool) (b m : List PV) (at1 : Int) (oz of : Bool) (o h mc : List PV) (he : eOk ⟨b, m, at1, o⟩ = true) (k : Res → Option Res) : g59 0 bz bf b m at1 oz of o h mc k = k ⟨.ow 5 16 [] 0 (Jg ⟨b, m, at1, o⟩).length none, [], [.vec false 5 false (pu .u8 (Jg ⟨b, m, at1, o⟩))]⟩ := by
  have hl := X9 he
  have hp := Jbr he
  obtain ⟨h1, h2, h3, h4, h5, h6⟩ := WE.1 he
  simp only at hl hp h1 h2 h3 h4 h5 h6
  have ht : ∀ l : List PV, ByteArray.mk (Array.mk (Jl l)) = tx l := fun l => rfl
  have hm : List.take 32 m = m := List.take_of_length_le (by omega)
  have l1 : (apT [] (tx b)).length = b.length + 2 := by rw [Xp]; simp [WD]
  have l2 : ∀ (L : List PV) (n : Int), (apI L n).length = L.length + 8 := ZG
  have htp : ∀ l : List Int, List.take l.length (pu .u8 l) = pu .u8 l := fun l => List.take_of_length_le (by simp)
  have hcat : ∀ n, n = (apT [] (tx b)).length + m.length → List.take n (apT [] (tx b) ++ m) = apT [] (tx b) ++ m := fun n hn => List.take_of_length_le (by simp; omega)
  rw [hm] at hp
  unfold g59
  simp only [ht, hm, List.take_length, htp, List.drop_zero, hcat _ rfl, WD, JG]
  refine (Jb (by rw [h1]; rfl)).trans ((Jb (by rw [Nat.ble_eq]; exact h2)).trans ((Jb (by simp only [Jj, Nat.mul_one, Bool.and_true, decide_eq_true_eq, l1]; omega)).trans ((Jb (by rw [show (apT [] (tx b)).length + m.length = (apT [] (tx b) ++ m).length from (List.length_append).symm, Jbo (by rw [List.length_append, l1]; omega)])).trans ((Jb h5).trans ((Jb (by rw [JF]; rfl)).trans ((Jb (by rw [Jbo (by rw [l2, List.length_append, l1]; omega), Bool.true_and, Nat.ble_eq]; exact h6)).trans ?_))))))
  rw [hp]
  rw [JG]
theorem JiA : Jk tau Try.prog 59 JlA := Jk.mk' fun xs es k res hl hr => by
  change JgY xs es k = some res at hr
  unfold JgY at hr
  split at hr
  · rename_i bz bf b m at1 oz of o h mc
    obtain ⟨hc, hr⟩ := JL hr
    exact Qp Js JsN Jt JwZ Jw0 JnW [] 0 0 (JAi 0) hl rfl ((e59 0 bz bf b m at1 oz of o h mc k).trans ((JsP bz bf b m at1 oz of o h mc hc k).trans hr))
  · cases hr
-- FN delta.Bytes | ref8.Bytes
structure DV where
  (ad au id ve : Int) (h : List PV) (kd : Int) (o : List PV) (wd wu : Int)
noncomputable def JjF (d : DV) : List Int := J7 d.ad ++ (J7 d.au ++ (J7 d.id ++ (J7 d.ve ++ (Jh d.h ++ ([IntKind.u8.wrap d.kd] ++ (Qj (tx (pu .u8 (opB d.o))) ++ (J7 d.wd ++ J7 d.wu)))))))
noncomputable def dlB : DV → List Int := hid JjF
theorem JdQ (d : DV) : dlB d = JjF d := by rw [dlB, hid_eq]
noncomputable def dOk : DV → Bool := hid fun d => Jd .u8 d.h && (decide (d.h.length = 32) && (cBy d.o && decide ((opB d.o).length ≤ 65535)))
theorem Ya {d : DV} : dOk d = true ↔ Jd .u8 d.h = true ∧ d.h.length = 32 ∧ cBy d.o = true ∧ (opB d.o).length ≤ 65535 := by
  rw [dOk, hid_eq]; simp only [Bool.and_eq_true, decide_eq_true_eq]
theorem Jbs {d : DV} (h : dOk d = true) : (dlB d).length = (opB d.o).length + 83 := by
  obtain ⟨h1, h2, h3, h4⟩ := Ya.1 h
  rw [JdQ]
  simp only [JjF, List.length_append, VR, QX, Xc, WD, JG, h2, List.length_cons, List.length_nil]; omega
theorem JlB {d : DV} (h : dOk d = true) : apI (apI (apT (apY (apI (apI (apI (apI [] d.ad) d.au) d.id) d.ve ++ List.take 32 d.h) d.kd) (tx (pu .u8 (opB d.o)))) d.wd) d.wu = pu .u8 (dlB d) := by
  obtain ⟨h1, h2, h3, h4⟩ := Ya.1 h
  rw [JdQ, List.take_of_length_le (by omega)]
  simp only [Xp, Y7, Z9, JjF, JR, List.nil_append, List.append_assoc, ← Qb h1]
noncomputable def JdR : List PV → List Ent → (Res → Option Res) → Option Res
  | [.st 73 [.st 45 [.sc (.int .i64 ad), .sc (.int .i64 au)], .sc (.int .i64 id1), .sc (.int .i64 ve), .ar 37 h, .sc (.int .i64 kd), .ro 99 oz of o, .st 45 [.sc (.int .i64 wd), .sc (.int .i64 wu)]]], [], k => bif dOk ⟨ad, au, id1, ve, h, kd, o, wd, wu⟩ then k ⟨.ro 5 false false (pu .u8 (dlB ⟨ad, au, id1, ve, h, kd, o, wd, wu⟩)), [], []⟩ else none
  | _, _, _ => none
noncomputable def Jqn : Sig := { own := [], run := JdR }
theorem JnZ (ad au id1 ve : Int) (h : List PV) (kd : Int) (oz of : Bool) (o : List PV) (wd wu : Int) (he : dOk ⟨ad, au, id1, ve, h, kd, o, wd, wu⟩ = true) (k : Res → Option Res) : JsK 0 ad au id1 ve h kd oz of o wd wu k = k ⟨.ro 5 false false (pu .u8 (dlB ⟨ad, au, id1, ve, h, kd, o, wd, wu⟩)), [], []⟩ := by
  have hl := Jbs he
  have hp := JlB he
  obtain ⟨h1, h2, h3, h4⟩ := Ya.1 he
  simp only at hl hp h1 h2 h3 h4
  have ht : ∀ l : List PV, ByteArray.mk (Array.mk (Jl l)) = tx l := fun l => rfl
  have hm : List.take 32 h = h := List.take_of_length_le (by omega)
  have l1 : ∀ (L : List PV) (n : Int), (apY L n).length = L.length + 1 := WC
  have l2 : ∀ (L : List PV) (n : Int), (apI L n).length = L.length + 8 := ZG
  have l3 : ∀ (L : List PV), (apT L (tx (pu .u8 (opB o)))).length = L.length + ((opB o).length + 2) := fun L => by rw [Xp]; simp [WD]
  have htp : ∀ l : List Int, List.take l.length (pu .u8 l) = pu .u8 l := fun l => List.take_of_length_le (by simp)
  have hcat : ∀ L : List PV, List.take (L.length + h.length) (L ++ h) = L ++ h := fun L => List.take_of_length_le (by simp)
  rw [hm] at hp
  unfold JsK
  simp only [ht, hm, List.take_length, htp, List.drop_zero, hcat, WD, JG]
  refine (Jb (by rw [Y8]; rfl)).trans ((Jb (QR (by simp only [l2, List.length_nil]; omega))).trans ((Jb (QR (by simp only [l2, List.length_nil]; omega))).trans ((Jb (QR (by simp only [l2, List.length_nil]; omega))).trans ?_)))
  refine (Jb (by simp only [Jj, Nat.mul_one, Bool.and_true, decide_eq_true_eq, l2, List.length_nil]; omega)).trans ?_
  refine (Jb (by rw [QR (by simp only [List.length_append, l2, List.length_nil]; omega)])).trans ((Jb h3).trans ((Jb (by rw [JF]; rfl)).trans ?_))
  refine (Jb (by rw [QR (by simp only [l1, List.length_append, l2, List.length_nil]; omega), Bool.true_and, Nat.ble_eq]; exact h4)).trans ?_
  refine (Jb (QR (by rw [l3]; simp only [l1, List.length_append, l2, List.length_nil]; omega))).trans ?_
  refine (Jb (QR (by rw [l2, l3]; simp only [l1, List.length_append, l2, List.length_nil]; omega))).trans ?_
  rw [hp]
  try rfl
theorem JsQ : Jk tau Try.prog 101 Jqn := Jk.mk' fun xs es k res hl hr => by
  change JdR xs es k = some res at hr
  unfold JdR at hr
  split at hr
  · rename_i ad au id1 ve h kd oz of o wd wu
    obtain ⟨hc, hr⟩ := JL hr
    exact Qp Js JnT Jt Jql Jqm Jiz [.ro] 0 6 (JwV 0) hl rfl ((JAe 0 ad au id1 ve h kd oz of o wd wu k).trans ((JnZ ad au id1 ve h kd oz of o wd wu hc k).trans hr))
  · cases hr
noncomputable def Jw1 : Fns := F0
theorem Jn0 : JA tau Try.prog Jw1 := JJ
def JiB : An := (.seq .leaf (.seq (.seq .leaf (.cond (.seq .leaf .leaf) .leaf)) (.seq .leaf .leaf)))
noncomputable def Jn1 (f : Nat) (k0_z : Bool) (k0_f : Bool) (k0 : List PV) (k1_z : Bool) (k1_f : Bool) (k1 : List PV) (k2_z : Bool) (k2_f : Bool) (k2 : List PV) (d : Int) (k : Res → Option Res) : Option Res := bif decide (d < 0) then k (Res.mk (.tup [.ro 5 true true [], .sc (.bool false)]) [] []) else bif decide (d ≥ 3) then k (Res.mk (.tup [.ro 5 true true [], .sc (.bool false)]) [] []) else bif decide (0 ≤ d) && decide (d < zi 3) && true then bif PV.isRo 5 (Jn (PV.st 31 [.ro 5 k0_z k0_f k0, .ro 5 k1_z k1_f k1, .ro 5 k2_z k2_f k2]) [d.toNat]) && true then k (Res.mk (.tup [.ro 5 (Jn (PV.st 31 [.ro 5 k0_z k0_f k0, .ro 5 k1_z k1_f k1, .ro 5 k2_z k2_f k2]) [d.toNat]).nl (Jn (PV.st 31 [.ro 5 k0_z k0_f k0, .ro 5 k1_z k1_f k1, .ro 5 k2_z k2_f k2]) [d.toNat]).fl (Jn (PV.st 31 [.ro 5 k0_z k0_f k0, .ro 5 k1_z k1_f k1, .ro 5 k2_z k2_f k2]) [d.toNat]).els, .sc (.bool true)]) [] []) else none else none
theorem JAj (f : Nat) (k0_z : Bool) (k0_f : Bool) (k0 : List PV) (k1_z : Bool) (k1_f : Bool) (k1 : List PV) (k2_z : Bool) (k2_f : Bool) (k2 : List PV) (d : Int) (k : Res → Option Res) : JN tau Jw1 Try.f102 (Try.f102.body.get!) JiB [.ro, .ro] 0 [.st 31 [.ro 5 k0_z k0_f k0, .ro 5 k1_z k1_f k1, .ro 5 k2_z k2_f k2], .sc (.int .i64 d)] [] k = Jn1 f k0_z k0_f k0 k1_z k1_f k1 k2_z k2_f k2 d k := by kernel_rfl
theorem Jw2 (f : Nat) : Ji (Try.f102.body.get!) JiB = [] := by kernel_rfl
theorem Jw3 (f : Nat) : ∀ q ∈ Ji (Try.f102.body.get!) JiB, q.Ok tau Try.prog 0 := by
  rw [Jw2 f]; intro q hq; cases hq
theorem Jqo : Try.prog.funcs[102]? = some Try.f102 := by kernel_rfl
theorem Jqp : Try.f102.body = some (Try.f102.body.get!) := by kernel_rfl
theorem JiC : Enters Try.prog 102 := enters_of Jqo (by kernel_rfl) Jqp
noncomputable def JgZ : List PV → List Ent → (Res → Option Res) → Option Res
  | [.st 31 [.ro 5 k0_z k0_f k0, .ro 5 k1_z k1_f k1, .ro 5 k2_z k2_f k2], .sc (.int .i64 d)], [], k => Jn1 0 k0_z k0_f k0 k1_z k1_f k1 k2_z k2_f k2 d k
  | _, _, _ => none
noncomputable def JAk : Sig := { own := [], run := JgZ }
theorem Jw4 : Jk tau Try.prog 102 JAk := JV Js Jn0 Jt Jqo Jqp JiB [.ro, .ro] 0 [] JgZ (Jw3 0) fun xs es k res hr => by
  unfold JgZ at hr
  split at hr
  · exact ⟨rfl, 0, (JAj 0 _ _ _ _ _ _ _ _ _ _  _).trans hr⟩
  · cases hr
-- FN sign.key
noncomputable def kIn : Int → Bool := hid fun d => QB d 2
theorem GE (d : Int) : kIn d = QB d 2 := by rw [kIn, hid_eq]
noncomputable def JdS : List PV → List Ent → (Res → Option Res) → Option Res
  | [.st 31 [.ro 5 z0 f0 k0, .ro 5 z1 f1 k1, .ro 5 z2 f2 k2], .sc (.int .i64 d)], [], k =>
    k ⟨.tup [.ro 5 (Jru ⟨[.ro 5 z0 f0 k0, .ro 5 z1 f1 k1, .ro 5 z2 f2 k2], d⟩) (Jrv ⟨[.ro 5 z0 f0 k0, .ro 5 z1 f1 k1, .ro 5 z2 f2 k2], d⟩) (Qv ⟨[.ro 5 z0 f0 k0, .ro 5 z1 f1 k1, .ro 5 z2 f2 k2], d⟩), .sc (.bool (kIn d))], [], []⟩
  | _, _, _ => none
noncomputable def Jfj : Sig := { own := [], run := JdS }
theorem JdT : Jk tau Try.prog 102 Jfj := Jw4.of fun xs es k res hr => by
  change JdS xs es k = some res at hr
  unfold JdS at hr
  split at hr
  · rename_i z0 f0 k0 z1 f1 k1 z2 f2 k2 d
    show Jn1 0 z0 f0 k0 z1 f1 k1 z2 f2 k2 d k = some res
    rw [Jm5, Jm6, Jat, GE] at hr
    unfold Jn1
    by_cases h1 : 0 ≤ d
    · refine (Jx (by simp; omega)).trans ?_
      by_cases h2 : d ≤ 2
      · refine (Jx (by simp; omega)).trans ?_
        refine (Jb (by simp [zi]; omega)).trans ?_
        have hi : QB d 2 = true := by simp [QB]; omega
        have hk : WU [.ro 5 z0 f0 k0, .ro 5 z1 f1 k1, .ro 5 z2 f2 k2] d = Jn (PV.st 31 [.ro 5 z0 f0 k0, .ro 5 z1 f1 k1, .ro 5 z2 f2 k2]) [d.toNat] := by unfold WU; rw [hi]; rfl
        simp only [hk, hi] at hr
        refine (Jb ?_).trans hr
        have : d = 0 ∨ d = 1 ∨ d = 2 := by omega
        rcases this with rfl | rfl | rfl <;> rfl
      · refine (Jb (by simp; omega)).trans ?_
        have hi : QB d 2 = false := by simp [QB]; omega
        have hk : WU [.ro 5 z0 f0 k0, .ro 5 z1 f1 k1, .ro 5 z2 f2 k2] d = .ro 5 true true [] := by unfold WU; rw [hi]; rfl
        simp only [hk, hi] at hr
        exact hr
    · refine (Jb (by simp; omega)).trans ?_
      have hi : QB d 2 = false := by simp [QB]; omega
      have hk : WU [.ro 5 z0 f0 k0, .ro 5 z1 f1 k1, .ro 5 z2 f2 k2] d = .ro 5 true true [] := by unfold WU; rw [hi]; rfl
      simp only [hk, hi] at hr
      exact hr
  · cases hr
noncomputable def F46 : Fns := JH 102 Jfj (JH 101 Jqn (JH 80 JkT (F0)))
theorem JsR : JA tau Try.prog F46 := (((JJ).add Jii Jnt).add JsQ JwW).add JdT JiC
def Jn2 : An := (.seq .leaf (.seq .leaf (.seq .leaf (.seq .leaf .leaf))))
noncomputable def g46 (f : Nat) (k0_z : Bool) (k0_f : Bool) (k0 : List PV) (k1_z : Bool) (k1_f : Bool) (k1 : List PV) (k2_z : Bool) (k2_f : Bool) (k2 : List PV) (d_Author_D : Int) (d_Author_U : Int) (d_Id : Int) (d_Version : Int) (d_Hash : List PV) (d_Kind : Int) (d_Op_z : Bool) (d_Op_f : Bool) (d_Op : List PV) (d_Who_D : Int) (d_Who_U : Int) (k : Res → Option Res) : Option Res := bif dOk (DV.mk d_Author_D d_Author_U d_Id d_Version d_Hash d_Kind d_Op d_Who_D d_Who_U) then bif Jd IntKind.u8 (Qv (K3.mk [.ro 5 k0_z k0_f k0, .ro 5 k1_z k1_f k1, .ro 5 k2_z k2_f k2] d_Author_D)) && decide ((Qv (K3.mk [.ro 5 k0_z k0_f k0, .ro 5 k1_z k1_f k1, .ro 5 k2_z k2_f k2] d_Author_D)).length ≤ 1000000000) && (Jd IntKind.u8 (Jo [.ro 5 false false (pu IntKind.u8 (dlB (DV.mk d_Author_D d_Author_U d_Id d_Version d_Hash d_Kind d_Op d_Who_D d_Who_U)))]) && decide ((Jo [.ro 5 false false (pu IntKind.u8 (dlB (DV.mk d_Author_D d_Author_U d_Id d_Version d_Hash d_Kind d_Op d_Who_D d_Who_U)))]).length ≤ 1000000000)) && true then k (Res.mk (.st 77 [.ro 5 false false (pu IntKind.u8 (dlB (DV.mk d_Author_D d_Author_U d_Id d_Version d_Hash d_Kind d_Op d_Who_D d_Who_U))), .ar 37 (pu IntKind.u8 (QQ (Jh (Qv (K3.mk [.ro 5 k0_z k0_f k0, .ro 5 k1_z k1_f k1, .ro 5 k2_z k2_f k2] d_Author_D))) (Jh (Jo [.ro 5 false false (pu IntKind.u8 (dlB (DV.mk d_Author_D d_Author_U d_Id d_Version d_Hash d_Kind d_Op d_Who_D d_Who_U)))]))))]) [] []) else none else none
theorem e46 (f : Nat) (k0_z : Bool) (k0_f : Bool) (k0 : List PV) (k1_z : Bool) (k1_f : Bool) (k1 : List PV) (k2_z : Bool) (k2_f : Bool) (k2 : List PV) (d_Author_D : Int) (d_Author_U : Int) (d_Id : Int) (d_Version : Int) (d_Hash : List PV) (d_Kind : Int) (d_Op_z : Bool) (d_Op_f : Bool) (d_Op : List PV) (d_Who_D : Int) (d_Who_U : Int) (k : Res → Option Res) : JN tau F46 Try.f46 (Try.f46.body.get!) Jn2 [.ro] 0 [.st 31 [.ro 5 k0_z k0_f k0, .ro 5 k1_z k1_f k1, .ro 5 k2_z k2_f k2], .st 73 [.st 45 [.sc (.int .i64 d_Author_D), .sc (.int .i64 d_Author_U)], .sc (.int .i64 d_Id), .sc (.int .i64 d_Version), .ar 37 d_Hash, .sc (.int .i64 d_Kind), .ro 99 d_Op_z d_Op_f d_Op, .st 45 [.sc (.int .i64 d_Who_D), .sc (.int .i64 d_Who_U)]]] [] k = g46 f k0_z k0_f k0 k1_z k1_f k1 k2_z k2_f k2 d_Author_D d_Author_U d_Id d_Version d_Hash d_Kind d_Op_z d_Op_f d_Op d_Who_D d_Who_U k := by kernel_rfl
theorem JAl (f : Nat) : Ji (Try.f46.body.get!) Jn2 = [] := by kernel_rfl
theorem JAm (f : Nat) : ∀ q ∈ Ji (Try.f46.body.get!) Jn2, q.Ok tau Try.prog 0 := by
  rw [JAl f]; intro q hq; cases hq
theorem Jw5 : Try.prog.funcs[46]? = some Try.f46 := by kernel_rfl
theorem Jw6 : Try.f46.body = some (Try.f46.body.get!) := by kernel_rfl
theorem JAn : Enters Try.prog 46 := enters_of Jw5 (by kernel_rfl) Jw6
noncomputable def JlC : List PV → List Ent → (Res → Option Res) → Option Res
  | [.st 31 [.ro 5 k0_z k0_f k0, .ro 5 k1_z k1_f k1, .ro 5 k2_z k2_f k2], .st 73 [.st 45 [.sc (.int .i64 d_Author_D), .sc (.int .i64 d_Author_U)], .sc (.int .i64 d_Id), .sc (.int .i64 d_Version), .ar 37 d_Hash, .sc (.int .i64 d_Kind), .ro 99 d_Op_z d_Op_f d_Op, .st 45 [.sc (.int .i64 d_Who_D), .sc (.int .i64 d_Who_U)]]], [], k => g46 0 k0_z k0_f k0 k1_z k1_f k1 k2_z k2_f k2 d_Author_D d_Author_U d_Id d_Version d_Hash d_Kind d_Op_z d_Op_f d_Op d_Who_D d_Who_U k
  | _, _, _ => none
noncomputable def s46 : Sig := { own := [], run := JlC }
theorem JAo : Jk tau Try.prog 46 s46 := JV Js JsR Jt Jw5 Jw6 Jn2 [.ro] 0 [] JlC (JAm 0) fun xs es k res hr => by
  unfold JlC at hr
  split at hr
  · exact ⟨rfl, 0, (e46 0 _ _ _ _ _ _ _ _ _ _ _ _ _ _ _ _ _ _ _ _  _).trans hr⟩
  · cases hr
noncomputable def Jw7 : Fns := F0
theorem Jn3 : JA tau Try.prog Jw7 := JJ
def JiD : An := (.seq .leaf (.seq (.seq .leaf (.cond (.seq .leaf .leaf) .leaf)) (.seq .leaf .leaf)))
noncomputable def Jw8 (f : Nat) (s_z : Bool) (s_f : Bool) (s : List PV) (k : Res → Option Res) : Option Res :=
  bif s_z then
    k (Res.mk (PV.ro 99 true true []) [] [])
  else bif Jj (0 + s.length) 32 && true then
    k (Res.mk (PV.ro 99 false false (List.take (0 + s.length) s)) [] [])
  else none
theorem JAp (f : Nat) (s_z : Bool) (s_f : Bool) (s : List PV) (k : Res → Option Res) : JN tau Jw7 Try.f161 (Try.f161.body.get!) JiD [.ro] 0 [.ro 99 s_z s_f s] [] k = Jw8 f s_z s_f s k := by kernel_rfl
theorem Jw9 (f : Nat) : Ji (Try.f161.body.get!) JiD = [] := by kernel_rfl
theorem Jxa (f : Nat) : ∀ q ∈ Ji (Try.f161.body.get!) JiD, q.Ok tau Try.prog 0 := by
  rw [Jw9 f]; intro q hq; cases hq
theorem Jqq : Try.prog.funcs[161]? = some Try.f161 := by kernel_rfl
theorem Jqr : Try.f161.body = some (Try.f161.body.get!) := by kernel_rfl
theorem Jxb : Enters Try.prog 161 := enters_of Jqq (by kernel_rfl) Jqr
noncomputable def Jg0 : List PV → List Ent → (Res → Option Res) → Option Res
  | [.ro 99 s_z s_f s], [], k => Jw8 0 s_z s_f s k
  | _, _, _ => none
noncomputable def Jxc : Sig := { own := [], run := Jg0 }
theorem Jxd : Jk tau Try.prog 161 Jxc := JV Js Jn3 Jt Jqq Jqr JiD [.ro] 0 [] Jg0 (Jxa 0) fun xs es k res hr => by
  unfold Jg0 at hr
  split at hr
  · exact ⟨rfl, 0, (JAp 0 _ _ _  _).trans hr⟩
  · cases hr
def JbQ : Nat := 50
noncomputable def JlD : Fns := JH 161 Jxc (JH 160 Jls (JH 135 Jkv (JH 134 Jrf (JH 133 Jrm (JH 132 Jrl (JH 78 s78 (JH 76 s76 (F0))))))))
theorem JiE : JA tau Try.prog JlD := ((((((((JJ).add Jt4 Jt3).add JuT JuS).add Jo9 Jo8).add Jpd Jpc).add Jo0 JoZ).add Jkw Jpg).add Jlt Jqj).add Jxd Jxb
noncomputable def GF : Code := Qy (Try.f143.body.get!) [1, 1, 1, 1, 1, 1, 0, 1, 0, 0]
def WF : Nm := [(4, .any), (5, .any), (6, .any), (7, .any), (9, .own), (25, .any), (26, .any)]
def Xg : Nm := [(4, .any), (9, .any)]
def Jbt : An := (.seq .leaf (.seq (.cond .leaf .leaf) (.seq (.block none .leaf) .leaf)))
def JiF (r0 : Q6) : An := (.seq .leaf (.seq .leaf (.seq .leaf (.seq .leaf (.seq (.seq .leaf (.cond (.seq .leaf .leaf) .leaf)) (.seq .leaf (.seq (.seq .leaf (.block none (.sum WF JbQ r0))) (.seq .leaf (.seq (.seq .leaf (.cond .leaf .leaf)) (.seq (.seq .leaf (.cond (.seq .leaf .leaf) .leaf)) (.seq .leaf .leaf)))))))))))
noncomputable def Zd (f : Nat) (rc : Nat → Int → Int → Bool → Bool → List PV → Int → Bool → List PV → Option Res) (k0 : Nat → Bool → Bool → List PV → Int → Bool → List PV → Option Res) (v0 : Nat) (v1 : Int) (v2 : Int) (v3 : Bool) (v4 : Bool) (v5 : List PV) (v6 : Int) (v7 : Bool) (v8 : List PV) : Option Res := bif decide (v2 < v1) then bif (!v3 || v4) && true && byB v5 then bif (!v3 || v4) && true && byB (Jc 1 (RS.mk v5 v6)).b then bif (!v3 || v4) && byB (Jc 8 (Jc 1 (RS.mk v5 v6))).b then bif Jj (v0 + 1) 32 && true then rc (v0 + 1) v1 (IntKind.i64.wrap (v2 + 1)) v3 v4 ((J5 (Jc 8 (Jc 1 (RS.mk v5 v6)))).b) ((J5 (Jc 8 (Jc 1 (RS.mk v5 v6)))).e) (v7 && false) (List.take v0 v8 ++ [.st 99 [.sc (.int .i64 (JC 1 (RS.mk v5 v6))), .sc (.int .i64 (JC 8 (Jc 1 (RS.mk v5 v6)))), .sc (.string (JS (Jc 8 (Jc 1 (RS.mk v5 v6)))))]]) else none else none else none else none else k0 v0 v3 v4 v5 v6 v7 v8
noncomputable def Wg (f : Nat) (k0 : Nat → Bool → Bool → List PV → Int → Bool → List PV → Option Res) : Nat → Nat → Int → Int → Bool → Bool → List PV → Int → Bool → List PV → Option Res
  | 0, _, _, _, _, _, _, _, _, _ => none
  | n + 1, v0, v1, v2, v3, v4, v5, v6, v7, v8 => Zd f (Wg f k0 n) k0 v0 v1 v2 v3 v4 v5 v6 v7 v8
theorem JlE (f : Nat) (k : Kont) (n : Nat) (v0 : Nat) (v1 : Int) (v2 : Int) (v3 : Bool) (v4 : Bool) (v5 : List PV) (v6 : Int) (v7 : Bool) (v8 : List PV) : Jq tau 0 WF (fun s k => ev tau JlD 0 0 GF (Jbt ) s k) (n + 1) (Je WF JbQ [.ptr 816 [], PV.fn (Fn.func 133) [.ptr 816 []] [], PV.fn (Fn.func 132) [.ptr 816 []] [], PV.fn (Fn.func 135) [.ptr 816 []] [], .ow 99 817 [] 0 v0 none, .sc (.int .i64 v1), .sc (.int .i64 v2)] [(816, .box false 186 (PV.st 186 [.ro 5 v3 v4 v5, .sc (.int .i64 v6)])), (817, .vec false 99 v7 v8)]) (Jz tau 0 Xg k) = Zd f (fun v0 v1 v2 v3 v4 v5 v6 v7 v8 => Jq tau 0 WF (fun s k => ev tau JlD 0 0 GF (Jbt ) s k) n (Je WF JbQ [.ptr 816 [], PV.fn (Fn.func 133) [.ptr 816 []] [], PV.fn (Fn.func 132) [.ptr 816 []] [], PV.fn (Fn.func 135) [.ptr 816 []] [], .ow 99 817 [] 0 v0 none, .sc (.int .i64 v1), .sc (.int .i64 v2)] [(816, .box false 186 (PV.st 186 [.ro 5 v3 v4 v5, .sc (.int .i64 v6)])), (817, .vec false 99 v7 v8)]) (Jz tau 0 Xg k)) (fun x0 x1 x2 x3 x4 x5 x6 => k (Ex.exit 0) (Je Xg JbQ [.ptr 816 [], .ow 99 817 [] 0 x0 none] [(816, .box false 186 (PV.st 186 [.ro 5 x1 x2 x3, .sc (.int .i64 x4)])), (817, .vec false 99 x5 x6)])) v0 v1 v2 v3 v4 v5 v6 v7 v8 := by kernel_rfl
theorem Jfk (f : Nat) (k : Kont) : ∀ (n : Nat) (v0 : Nat) (v1 : Int) (v2 : Int) (v3 : Bool) (v4 : Bool) (v5 : List PV) (v6 : Int) (v7 : Bool) (v8 : List PV), Jq tau 0 WF (fun s k => ev tau JlD 0 0 GF (Jbt ) s k) n (Je WF JbQ [.ptr 816 [], PV.fn (Fn.func 133) [.ptr 816 []] [], PV.fn (Fn.func 132) [.ptr 816 []] [], PV.fn (Fn.func 135) [.ptr 816 []] [], .ow 99 817 [] 0 v0 none, .sc (.int .i64 v1), .sc (.int .i64 v2)] [(816, .box false 186 (PV.st 186 [.ro 5 v3 v4 v5, .sc (.int .i64 v6)])), (817, .vec false 99 v7 v8)]) (Jz tau 0 Xg k) = Wg f (fun x0 x1 x2 x3 x4 x5 x6 => k (Ex.exit 0) (Je Xg JbQ [.ptr 816 [], .ow 99 817 [] 0 x0 none] [(816, .box false 186 (PV.st 186 [.ro 5 x1 x2 x3, .sc (.int .i64 x4)])), (817, .vec false 99 x5 x6)])) n v0 v1 v2 v3 v4 v5 v6 v7 v8 | 0, _, _, _, _, _, _, _, _, _ => rfl | n + 1, v0, v1, v2, v3, v4, v5, v6, v7, v8 => (JlE f k n v0 v1 v2 v3 v4 v5 v6 v7 v8).trans (congrArg (fun r => Zd f r (fun x0 x1 x2 x3 x4 x5 x6 => k (Ex.exit 0) (Je Xg JbQ [.ptr 816 [], .ow 99 817 [] 0 x0 none] [(816, .box false 186 (PV.st 186 [.ro 5 x1 x2 x3, .sc (.int .i64 x4)])), (817, .vec false 99 x5 x6)])) v0 v1 v2 v3 v4 v5 v6 v7 v8) (by funext v0 v1 v2 v3 v4 v5 v6 v7 v8; exact Jfk f k n v0 v1 v2 v3 v4 v5 v6 v7 v8))
noncomputable def Vd (f : Nat) : List PV → List (Nat × Ent) → Kont → Option Res
  | [.ptr 816 [], PV.fn (Fn.func 133) [.ptr 816 []] [], PV.fn (Fn.func 132) [.ptr 816 []] [], PV.fn (Fn.func 135) [.ptr 816 []] [], .ow 99 817 [] 0 v0 none, .sc (.int .i64 v1),
  PV.sc
    (Value.int IntKind.i64
      v2)], [(816, .box false 186 (PV.st 186 [.ro 5 v3 v4 v5, .sc (.int .i64 v6)])),
  (817,
    Ent.vec false 99 v7
      v8)], k => Wg f (fun x0 x1 x2 x3 x4 x5 x6 => k (Ex.exit
  0) (Je Xg JbQ [.ptr 816 [],
  PV.ow 99 817 [] 0 x0 none] [(816, .box false 186 (PV.st 186 [.ro 5 x1 x2 x3, .sc (.int .i64 x4)])), (817, .vec false 99 x5 x6)])) f v0 v1 v2 v3 v4 v5 v6 v7 v8
  | _, _, _ => none
theorem Jn4 (f : Nat) : Ji GF Jbt = [] := by kernel_rfl
theorem JsS (f : Nat) : (Item.l GF WF JbQ (Vd f)).Ok tau Try.prog 0 := JM Js JiE Jt (x := Jbt) (nm2 := Xg) (Jr _ _ (by rw [Jn4 f]; intro q hq; cases hq)) fun vs hp k res hr => by
  unfold Vd at hr
  split at hr
  · exact ⟨f, 0, (Jfk f _ f _ _ _ _ _ _ _ _ _ ).trans hr⟩
  · cases hr
noncomputable def JsT (f : Nat) (b_z : Bool) (b_f : Bool) (b : List PV) (k : Res → Option Res) : Option Res := bif slB b_z b then bif (!b_z || b_z) && true && byB b then bif decide (JC 1 (RS.mk b 0) > 40) then bif (Jc 1 (RS.mk b 0)).e == 0 then Wg f (fun x0_0 x1_0 x2_0 x3_0 x4_0 x5_0 x6_0 => bif x4_0 == 0 then bif decide (zi x3_0.length > 0) then k (Res.mk (.tup [.ro 99 true true [], .sc (.int .i64 9)]) [] []) else bif x4_0 == 0 then bif cOk (List.take x0_0 x6_0) then bif ckO (List.take x0_0 x6_0) != 0 then k (Res.mk (.tup [.ro 99 true true [], .sc (.int .i64 (ckO (List.take x0_0 x6_0)))]) [] []) else bif (Ent.vec false 99 x5_0 x6_0).nil then k (Res.mk (.tup [.ro 99 true true [], .sc (.int .i64 0)]) [] []) else bif Jj (0 + (List.take x0_0 x6_0).length) 32 && true then k (Res.mk (.tup [.ro 99 false false (List.take (0 + (List.take x0_0 x6_0).length) (List.take x0_0 x6_0)), .sc (.int .i64 0)]) [] []) else none else none else bif x4_0 != 0 then k (Res.mk (.tup [.ro 99 true true [], .sc (.int .i64 x4_0)]) [] []) else bif (Ent.vec false 99 x5_0 x6_0).nil then k (Res.mk (.tup [.ro 99 true true [], .sc (.int .i64 0)]) [] []) else bif Jj (0 + (List.take x0_0 x6_0).length) 32 && true then k (Res.mk (.tup [.ro 99 false false (List.take (0 + (List.take x0_0 x6_0).length) (List.take x0_0 x6_0)), .sc (.int .i64 0)]) [] []) else none else bif x4_0 == 0 then bif cOk (List.take x0_0 x6_0) then bif ckO (List.take x0_0 x6_0) != 0 then k (Res.mk (.tup [.ro 99 true true [], .sc (.int .i64 (ckO (List.take x0_0 x6_0)))]) [] []) else bif (Ent.vec false 99 x5_0 x6_0).nil then k (Res.mk (.tup [.ro 99 true true [], .sc (.int .i64 0)]) [] []) else bif Jj (0 + (List.take x0_0 x6_0).length) 32 && true then k (Res.mk (.tup [.ro 99 false false (List.take (0 + (List.take x0_0 x6_0).length) (List.take x0_0 x6_0)), .sc (.int .i64 0)]) [] []) else none else none else bif x4_0 != 0 then k (Res.mk (.tup [.ro 99 true true [], .sc (.int .i64 x4_0)]) [] []) else bif (Ent.vec false 99 x5_0 x6_0).nil then k (Res.mk (.tup [.ro 99 true true [], .sc (.int .i64 0)]) [] []) else bif Jj (0 + (List.take x0_0 x6_0).length) 32 && true then k (Res.mk (.tup [.ro 99 false false (List.take (0 + (List.take x0_0 x6_0).length) (List.take x0_0 x6_0)), .sc (.int .i64 0)]) [] []) else none) f (0) (0) (0) b_z b_z ((Jc 1 (RS.mk b 0)).b) (4) true ([]) else Wg f (fun x0_1 x1_1 x2_1 x3_1 x4_1 x5_1 x6_1 => bif x4_1 == 0 then bif decide (zi x3_1.length > 0) then k (Res.mk (.tup [.ro 99 true true [], .sc (.int .i64 9)]) [] []) else bif x4_1 == 0 then bif cOk (List.take x0_1 x6_1) then bif ckO (List.take x0_1 x6_1) != 0 then k (Res.mk (.tup [.ro 99 true true [], .sc (.int .i64 (ckO (List.take x0_1 x6_1)))]) [] []) else bif (Ent.vec false 99 x5_1 x6_1).nil then k (Res.mk (.tup [.ro 99 true true [], .sc (.int .i64 0)]) [] []) else bif Jj (0 + (List.take x0_1 x6_1).length) 32 && true then k (Res.mk (.tup [.ro 99 false false (List.take (0 + (List.take x0_1 x6_1).length) (List.take x0_1 x6_1)), .sc (.int .i64 0)]) [] []) else none else none else bif x4_1 != 0 then k (Res.mk (.tup [.ro 99 true true [], .sc (.int .i64 x4_1)]) [] []) else bif (Ent.vec false 99 x5_1 x6_1).nil then k (Res.mk (.tup [.ro 99 true true [], .sc (.int .i64 0)]) [] []) else bif Jj (0 + (List.take x0_1 x6_1).length) 32 && true then k (Res.mk (.tup [.ro 99 false false (List.take (0 + (List.take x0_1 x6_1).length) (List.take x0_1 x6_1)), .sc (.int .i64 0)]) [] []) else none else bif x4_1 == 0 then bif cOk (List.take x0_1 x6_1) then bif ckO (List.take x0_1 x6_1) != 0 then k (Res.mk (.tup [.ro 99 true true [], .sc (.int .i64 (ckO (List.take x0_1 x6_1)))]) [] []) else bif (Ent.vec false 99 x5_1 x6_1).nil then k (Res.mk (.tup [.ro 99 true true [], .sc (.int .i64 0)]) [] []) else bif Jj (0 + (List.take x0_1 x6_1).length) 32 && true then k (Res.mk (.tup [.ro 99 false false (List.take (0 + (List.take x0_1 x6_1).length) (List.take x0_1 x6_1)), .sc (.int .i64 0)]) [] []) else none else none else bif x4_1 != 0 then k (Res.mk (.tup [.ro 99 true true [], .sc (.int .i64 x4_1)]) [] []) else bif (Ent.vec false 99 x5_1 x6_1).nil then k (Res.mk (.tup [.ro 99 true true [], .sc (.int .i64 0)]) [] []) else bif Jj (0 + (List.take x0_1 x6_1).length) 32 && true then k (Res.mk (.tup [.ro 99 false false (List.take (0 + (List.take x0_1 x6_1).length) (List.take x0_1 x6_1)), .sc (.int .i64 0)]) [] []) else none) f (0) (0) (0) b_z b_z ((Jc 1 (RS.mk b 0)).b) ((Jc 1 (RS.mk b 0)).e) true ([]) else Wg f (fun x0_2 x1_2 x2_2 x3_2 x4_2 x5_2 x6_2 => bif x4_2 == 0 then bif decide (zi x3_2.length > 0) then k (Res.mk (.tup [.ro 99 true true [], .sc (.int .i64 9)]) [] []) else bif x4_2 == 0 then bif cOk (List.take x0_2 x6_2) then bif ckO (List.take x0_2 x6_2) != 0 then k (Res.mk (.tup [.ro 99 true true [], .sc (.int .i64 (ckO (List.take x0_2 x6_2)))]) [] []) else bif (Ent.vec false 99 x5_2 x6_2).nil then k (Res.mk (.tup [.ro 99 true true [], .sc (.int .i64 0)]) [] []) else bif Jj (0 + (List.take x0_2 x6_2).length) 32 && true then k (Res.mk (.tup [.ro 99 false false (List.take (0 + (List.take x0_2 x6_2).length) (List.take x0_2 x6_2)), .sc (.int .i64 0)]) [] []) else none else none else bif x4_2 != 0 then k (Res.mk (.tup [.ro 99 true true [], .sc (.int .i64 x4_2)]) [] []) else bif (Ent.vec false 99 x5_2 x6_2).nil then k (Res.mk (.tup [.ro 99 true true [], .sc (.int .i64 0)]) [] []) else bif Jj (0 + (List.take x0_2 x6_2).length) 32 && true then k (Res.mk (.tup [.ro 99 false false (List.take (0 + (List.take x0_2 x6_2).length) (List.take x0_2 x6_2)), .sc (.int .i64 0)]) [] []) else none else bif x4_2 == 0 then bif cOk (List.take x0_2 x6_2) then bif ckO (List.take x0_2 x6_2) != 0 then k (Res.mk (.tup [.ro 99 true true [], .sc (.int .i64 (ckO (List.take x0_2 x6_2)))]) [] []) else bif (Ent.vec false 99 x5_2 x6_2).nil then k (Res.mk (.tup [.ro 99 true true [], .sc (.int .i64 0)]) [] []) else bif Jj (0 + (List.take x0_2 x6_2).length) 32 && true then k (Res.mk (.tup [.ro 99 false false (List.take (0 + (List.take x0_2 x6_2).length) (List.take x0_2 x6_2)), .sc (.int .i64 0)]) [] []) else none else none else bif x4_2 != 0 then k (Res.mk (.tup [.ro 99 true true [], .sc (.int .i64 x4_2)]) [] []) else bif (Ent.vec false 99 x5_2 x6_2).nil then k (Res.mk (.tup [.ro 99 true true [], .sc (.int .i64 0)]) [] []) else bif Jj (0 + (List.take x0_2 x6_2).length) 32 && true then k (Res.mk (.tup [.ro 99 false false (List.take (0 + (List.take x0_2 x6_2).length) (List.take x0_2 x6_2)), .sc (.int .i64 0)]) [] []) else none) f (0) (JC 1 (RS.mk b 0)) (0) b_z b_z ((Jc 1 (RS.mk b 0)).b) ((Jc 1 (RS.mk b 0)).e) true ([]) else none else none
theorem JAq (f : Nat) (b_z : Bool) (b_f : Bool) (b : List PV) (k : Res → Option Res) : JN tau JlD Try.f143 (Try.f143.body.get!) (JiF (Vd f)) [.ro, .ro] 0 [.ro 5 b_z b_f b] [] k = JsT f b_z b_f b k := by kernel_rfl
theorem Jxe (f : Nat) : Ji (Try.f143.body.get!) (JiF (Vd f)) = [.l GF WF JbQ (Vd f)] := by kernel_rfl
theorem Jxf (f : Nat) : ∀ q ∈ Ji (Try.f143.body.get!) (JiF (Vd f)), q.Ok tau Try.prog 0 := by
  rw [Jxe f]; simp only [List.forall_mem_cons, List.not_mem_nil, false_implies, implies_true, and_true]; exact JsS f
theorem Jqs : Try.prog.funcs[143]? = some Try.f143 := by kernel_rfl
theorem Jqt : Try.f143.body = some (Try.f143.body.get!) := by kernel_rfl
theorem Jxg : Enters Try.prog 143 := enters_of Jqs (by kernel_rfl) Jqt




-- FN delta.OpParse | ref8.OpParse
noncomputable def cpN (s : RS) : RS := J5 (Jc 8 (Jc 1 s))
noncomputable def cpV (s : RS) : PV := .st 99 [.sc (.int .i64 (JC 1 s)), .sc (.int .i64 (JC 8 (Jc 1 s))), .sc (.string (JS (Jc 8 (Jc 1 s))))]
noncomputable def cpR : Nat → RS → RS
  | 0, s => s
  | n + 1, s => cpR n (cpN s)
noncomputable def cpL : Nat → RS → List PV
  | 0, _ => []
  | n + 1, s => cpV s :: cpL n (cpN s)
theorem Ve : ∀ (n : Nat) (s : RS), (cpL n s).length = n
  | 0, _ => rfl
  | n + 1, s => by rw [cpL, List.length_cons, Ve n]
theorem JlF : ∀ (n : Nat) (s : RS), (cpL n s).all isCp = true
  | 0, _ => rfl
  | n + 1, s => by rw [cpL, List.all_cons, JlF n, Bool.and_true]; exact Jbm.2 ⟨_, _, _, rfl⟩
theorem Jn5 {s : RS} (h : byB s.b = true) : byB (cpN s).b = true := Jh1 (Qu (Qu h 1) 8)
noncomputable def opN (b : List PV) : Nat := bif decide (JC 1 ⟨b, 0⟩ > 40) then 0 else (JC 1 ⟨b, 0⟩).toNat
noncomputable def opS (b : List PV) : RS := bif decide (JC 1 ⟨b, 0⟩ > 40) then Jci 4 (Jc 1 ⟨b, 0⟩) else Jc 1 ⟨b, 0⟩
noncomputable def VX (b : List PV) : Int := bif (cpR (opN b) (opS b)).e == 0 then (bif decide ((cpR (opN b) (opS b)).b.length > 0) then 9 else ckO (cpL (opN b) (opS b))) else (cpR (opN b) (opS b)).e
noncomputable def opE : List PV → Int := hid VX
noncomputable def opL : List PV → List PV := hid fun b => bif VX b == 0 then cpL (opN b) (opS b) else []
theorem Jg1 (b : List PV) : opE b = VX b := by rw [opE, hid_eq]
theorem JdU (b : List PV) : opL b = bif VX b == 0 then cpL (opN b) (opS b) else [] := by rw [opL, hid_eq]
def Ze (e : Int) : PV := .tup [.ro 99 true true [], .sc (.int .i64 e)]
noncomputable def opP (b : List PV) : PV := .tup [.ro 99 (opL b).isEmpty (opL b).isEmpty (opL b), .sc (.int .i64 (opE b))]
theorem JdV {b : List PV} {e : Int} (h : VX b = e) (h0 : (e == 0) = false) : opP b = Ze e := by
  simp only [opP, Ze, JdU, Jg1, h, h0, cond_false, List.isEmpty_nil]
theorem JsU {b : List PV} (h : VX b = 0) : opP b = .tup [.ro 99 (cpL (opN b) (opS b)).isEmpty (cpL (opN b) (opS b)).isEmpty (cpL (opN b) (opS b)), .sc (.int .i64 0)] := by
  simp only [opP, JdU, Jg1, h, beq_self_eq_true, cond_true]
theorem JlG {b : List PV} (h : byB b = true) : opN b ≤ 40 := by
  unfold opN
  have h0 : 0 ≤ JC 1 ⟨b, 0⟩ := by rw [W2]; exact (XR (s := ⟨b, 0⟩) h (n := 1) (by omega)).1
  cases hc : decide (JC 1 ⟨b, 0⟩ > 40) with
  | true => exact Nat.zero_le _
  | false => have : ¬ JC 1 ⟨b, 0⟩ > 40 := by simpa using hc
             rw [cond_false]; omega
theorem Jn6 {b : List PV} (h : byB b = true) : byB (opS b).b = true := by
  have := Qu (s := ⟨b, 0⟩) h 1
  unfold opS Jci
  cases decide (JC 1 ⟨b, 0⟩ > 40) <;> exact this
theorem JiG {n : Nat} (h : n ≤ 40) (s : RS) : cOk (cpL n s) = true := ZF.2 ⟨JlF n s, by rw [Ve]; omega⟩
theorem JlH (f : Nat) (k0 : Nat → Bool → Bool → List PV → Int → Bool → List PV → Option Res) (z fl : Bool) (hz : (!z || fl) = true) (N : Nat) (hN : N ≤ 40) : ∀ (d i n : Nat) (s : RS) (nl : Bool) (L : List PV), i + d = N → d < n → byB s.b = true → L.length = i →
    Wg f k0 n L.length (N : Int) (i : Int) z fl s.b s.e nl L = k0 (L ++ cpL d s).length z fl (cpR d s).b (cpR d s).e (nl && (cpL d s).isEmpty) (L ++ cpL d s)
  | 0, i, n + 1, s, nl, L, h, hn, hb, hL => by
      obtain rfl : i = N := by omega
      simp only [Wg, Zd, cpR, cpL, List.append_nil, List.isEmpty_nil, Bool.and_true]
      exact Jx (by simp)
  | d + 1, i, n + 1, s, nl, L, h, hn, hb, hL => by
      have w : IntKind.i64.wrap ((i : Int) + 1) = ((i + 1 : Nat) : Int) := by rw [wrap_i64 (by omega) (by omega)]; omega
      have hm : RS.mk s.b s.e = s := rfl
      have hn1 : J5 (Jc 8 (Jc 1 s)) = cpN s := rfl
      have hv1 : PV.st 99 [.sc (.int .i64 (JC 1 s)), .sc (.int .i64 (JC 8 (Jc 1 s))), .sc (.string (JS (Jc 8 (Jc 1 s))))] = cpV s := rfl
      simp only [Wg, Zd, w, hm, hn1, hv1, List.take_length]
      refine (Jb (by simp; omega)).trans ((Jb (by rw [hb, hz]; rfl)).trans ((Jb (by rw [Qu hb 1, hz]; rfl)).trans ((Jb (by rw [Qu (Qu hb 1) 8, hz]; rfl)).trans ((Jb (by simp [Jj]; omega)).trans ?_))))
      have := JlH f k0 z fl hz N hN d (i + 1) n (cpN s) (nl && false) (L ++ [cpV s]) (by omega) (by omega) (Jn5 hb) (by simp [hL])
      rw [List.length_append] at this
      refine Eq.trans this ?_
      simp only [cpR, cpL, Bool.and_false, Bool.false_and, List.isEmpty_cons, List.append_assoc, List.cons_append, List.nil_append]
theorem Jn7 (z f : Bool) (b : List PV) (hz : slB z b = true) (hb : byB b = true) (k : Res → Option Res) :
    JsT 50 z f b k = k ⟨opP b, [], []⟩ := by
  have hE : VX b = VX b := rfl
  conv at hE => rhs; unfold VX
  have hN := JlG hb
  have hS := Jn6 hb
  have key : ∀ (N : Nat) (s : RS) (K : Nat → Bool → Bool → List PV → Int → Bool → List PV → Option Res), opN b = N → opS b = s →
      (∀ (e : Int) (x1 x2 : Bool), VX b = (bif (cpR N s).e == 0 then (bif decide ((cpR N s).b.length > 0) then 9 else ckO (cpL N s)) else (cpR N s).e) → K (cpL N s).length x1 x2 (cpR N s).b (cpR N s).e (true && (cpL N s).isEmpty) ([] ++ cpL N s) = k ⟨opP b, [], []⟩) →
      Wg 50 K 50 0 (N : Int) 0 z z s.b s.e true [] = k ⟨opP b, [], []⟩ := by
    intro N s K h1 h2 h3
    subst h1; subst h2
    refine (JlH 50 K z z (by cases z <;> rfl) (opN b) hN (opN b) 0 50 (opS b) true [] (by omega) (by omega) hS rfl).trans ?_
    exact h3 0 z z hE
  have fin : ∀ (N : Nat) (s : RS), opN b = N → opS b = s → VX b = (bif (cpR N s).e == 0 then (bif decide ((cpR N s).b.length > 0) then 9 else ckO (cpL N s)) else (cpR N s).e) →
      (bif (cpR N s).e == 0 then
        bif decide (zi (cpR N s).b.length > 0) then k ⟨Ze 9, [], []⟩
        else bif (cpR N s).e == 0 then
          bif cOk (List.take (cpL N s).length ([] ++ cpL N s)) then
            bif ckO (List.take (cpL N s).length ([] ++ cpL N s)) != 0 then k ⟨Ze (ckO (List.take (cpL N s).length ([] ++ cpL N s))), [], []⟩
            else bif (Ent.vec false 99 (true && (cpL N s).isEmpty) ([] ++ cpL N s)).nil then k ⟨Ze 0, [], []⟩
            else bif Jj (0 + (List.take (cpL N s).length ([] ++ cpL N s)).length) 32 && true then k ⟨.tup [.ro 99 false false (List.take (0 + (List.take (cpL N s).length ([] ++ cpL N s)).length) (List.take (cpL N s).length ([] ++ cpL N s))), .sc (.int .i64 0)], [], []⟩ else none
          else none
        else bif (cpR N s).e != 0 then k ⟨Ze (cpR N s).e, [], []⟩
        else bif (Ent.vec false 99 (true && (cpL N s).isEmpty) ([] ++ cpL N s)).nil then k ⟨Ze 0, [], []⟩
            else bif Jj (0 + (List.take (cpL N s).length ([] ++ cpL N s)).length) 32 && true then k ⟨.tup [.ro 99 false false (List.take (0 + (List.take (cpL N s).length ([] ++ cpL N s)).length) (List.take (cpL N s).length ([] ++ cpL N s))), .sc (.int .i64 0)], [], []⟩ else none
      else bif (cpR N s).e == 0 then
          bif cOk (List.take (cpL N s).length ([] ++ cpL N s)) then
            bif ckO (List.take (cpL N s).length ([] ++ cpL N s)) != 0 then k ⟨Ze (ckO (List.take (cpL N s).length ([] ++ cpL N s))), [], []⟩
            else bif (Ent.vec false 99 (true && (cpL N s).isEmpty) ([] ++ cpL N s)).nil then k ⟨Ze 0, [], []⟩
            else bif Jj (0 + (List.take (cpL N s).length ([] ++ cpL N s)).length) 32 && true then k ⟨.tup [.ro 99 false false (List.take (0 + (List.take (cpL N s).length ([] ++ cpL N s)).length) (List.take (cpL N s).length ([] ++ cpL N s))), .sc (.int .i64 0)], [], []⟩ else none
          else none
        else bif (cpR N s).e != 0 then k ⟨Ze (cpR N s).e, [], []⟩
        else bif (Ent.vec false 99 (true && (cpL N s).isEmpty) ([] ++ cpL N s)).nil then k ⟨Ze 0, [], []⟩
            else bif Jj (0 + (List.take (cpL N s).length ([] ++ cpL N s)).length) 32 && true then k ⟨.tup [.ro 99 false false (List.take (0 + (List.take (cpL N s).length ([] ++ cpL N s)).length) (List.take (cpL N s).length ([] ++ cpL N s))), .sc (.int .i64 0)], [], []⟩ else none) = k ⟨opP b, [], []⟩ := by
    intro N s h1 h2 h3
    have hco : cOk (cpL N s) = true := JiG (by omega) s
    have hnl : (Ent.vec false 99 (cpL N s).isEmpty (cpL N s)).nil = (cpL N s).isEmpty := by simp [Ent.nil]
    have hlen : (cpL N s).length ≤ 40 := by rw [Ve]; omega
    have hz9 : decide (zi (cpR N s).b.length > 0) = decide ((cpR N s).b.length > 0) := by apply decide_eq_decide.2; simp only [zi]; omega
    simp only [List.nil_append, List.take_length, Bool.true_and, Nat.zero_add, hco, hnl, hz9, cond_true]
    cases he : ((cpR N s).e == 0) with
    | false =>
      rw [he, cond_false] at h3
      rw [JdV h3 he]
      simp only [cond_false]
      exact Jb (by rw [bne, he]; rfl)
    | true =>
      rw [he, cond_true] at h3
      cases h9 : decide ((cpR N s).b.length > 0) with
      | true =>
        rw [h9, cond_true] at h3
        rw [JdV h3 (by decide)]
        rfl
      | false =>
        rw [h9, cond_false] at h3
        simp only [cond_true, cond_false]
        cases hc : (ckO (cpL N s) == 0) with
        | false =>
          rw [JdV h3 hc]
          exact Jb (by rw [bne, hc]; rfl)
        | true =>
          have hc' : ckO (cpL N s) = 0 := by simpa using hc
          rw [hc'] at h3
          rw [JsU h3, h1, h2]
          refine (Jx (by rw [bne, hc]; rfl)).trans ?_
          cases hl : cpL N s with
          | nil => rfl
          | cons p ps =>
            rw [hl] at hlen
            refine (Jx rfl).trans ((Jb (by simp [Jj] at hlen ⊢; omega)).trans rfl)
  unfold JsT
  refine (Jb hz).trans ((Jb (by rw [hb]; cases z <;> rfl)).trans ?_)
  have h0 : 0 ≤ JC 1 ⟨b, 0⟩ := by rw [W2]; exact (XR (s := ⟨b, 0⟩) hb (n := 1) (by omega)).1
  cases h4 : decide (JC 1 ⟨b, 0⟩ > 40) with
  | true =>
    have hN0 : opN b = 0 := by unfold opN; rw [h4]; rfl
    have hS0 : opS b = Jci 4 (Jc 1 ⟨b, 0⟩) := by unfold opS; rw [h4]; rfl
    rw [cond_true]
    cases he : ((Jc 1 ⟨b, 0⟩).e == 0) with
    | true =>
      rw [cond_true]
      have hs : opS b = ⟨(Jc 1 ⟨b, 0⟩).b, 4⟩ := by rw [hS0]; unfold Jci; rw [he]; rfl
      exact key 0 ⟨(Jc 1 ⟨b, 0⟩).b, 4⟩ _ hN0 hs fun _ _ _ h => fin 0 _ hN0 hs h
    | false =>
      rw [cond_false]
      have hs : opS b = ⟨(Jc 1 ⟨b, 0⟩).b, (Jc 1 ⟨b, 0⟩).e⟩ := by rw [hS0]; unfold Jci; rw [he]; rfl
      exact key 0 ⟨(Jc 1 ⟨b, 0⟩).b, (Jc 1 ⟨b, 0⟩).e⟩ _ hN0 hs fun _ _ _ h => fin 0 _ hN0 hs h
  | false =>
    have hN0 : opN b = (JC 1 ⟨b, 0⟩).toNat := by unfold opN; rw [h4]; rfl
    have hS0 : opS b = Jc 1 ⟨b, 0⟩ := by unfold opS; rw [h4]; rfl
    rw [cond_false]
    have q := fun K hK => key (JC 1 ⟨b, 0⟩).toNat (Jc 1 ⟨b, 0⟩) K hN0 hS0 hK
    rw [Int.toNat_of_nonneg h0] at q
    exact q _ fun _ _ _ h => fin _ _ hN0 hS0 h
noncomputable def JdW : List PV → List Ent → (Res → Option Res) → Option Res
  | [.ro 5 z f b], [], k => bif slB z b && byB b then k ⟨opP b, [], []⟩ else none
  | _, _, _ => none
noncomputable def Jqu : Sig := { own := [], run := JdW }
theorem JsV : Jk tau Try.prog 143 Jqu := Jk.mk' fun xs es k res hl hr => by
  change JdW xs es k = some res at hr
  unfold JdW at hr
  split at hr
  · rename_i z f b
    obtain ⟨hc, hr⟩ := JL hr
    rw [Bool.and_eq_true] at hc
    have hg := (Jn7 z f b hc.1 hc.2 k).trans hr
    exact Qp Js JiE Jt Jqs Jqt (JiF (Vd 50)) [.ro, .ro] 0 0 (Jxf 50) hl rfl ((JAq 50 z f b k).trans hg)
  · cases hr
/-! The document's. -/
noncomputable def Jxh : Fns := F0
theorem Jn8 : JA tau Try.prog Jxh := JJ
def JiH : An := (.seq .leaf (.seq .leaf .leaf))
noncomputable def Jxi (f : Nat) (n : Int) (most : Int) (k : Res → Option Res) : Option Res :=
  bif decide (n ≥ 0) then
    k (Res.mk (PV.sc (Value.bool (decide (n ≤ most)))) [] [])
  else k (Res.mk (PV.sc (Value.bool false)) [] [])
theorem JAr (f : Nat) (n : Int) (most : Int) (k : Res → Option Res) : JN tau Jxh Try.f163 (Try.f163.body.get!) JiH [.ro] 0 [.sc (.int .i64 n), .sc (.int .i64 most)] [] k = Jxi f n most k := by kernel_rfl
theorem Jxj (f : Nat) : Ji (Try.f163.body.get!) JiH = [] := by kernel_rfl
theorem Jxk (f : Nat) : ∀ q ∈ Ji (Try.f163.body.get!) JiH, q.Ok tau Try.prog 0 := by
  rw [Jxj f]; intro q hq; cases hq
theorem Jqv : Try.prog.funcs[163]? = some Try.f163 := by kernel_rfl
theorem Jqw : Try.f163.body = some (Try.f163.body.get!) := by kernel_rfl
theorem Jqx : Enters Try.prog 163 := enters_of Jqv (by kernel_rfl) Jqw
noncomputable def Jg2 : List PV → List Ent → (Res → Option Res) → Option Res
  | [.sc (.int .i64 n), .sc (.int .i64 most)], [], k => Jxi 0 n most k
  | _, _, _ => none
noncomputable def JsW : Sig := { own := [], run := Jg2 }
theorem Jqy : Jk tau Try.prog 163 JsW := JV Js Jn8 Jt Jqv Jqw JiH [.ro] 0 [] Jg2 (Jxk 0) fun xs es k res hr => by
  unfold Jg2 at hr
  split at hr
  · exact ⟨rfl, 0, (JAr 0 _ _  _).trans hr⟩
  · cases hr
noncomputable def Jxl : Fns := JH 163 JsW (F0)
theorem Jn9 : JA tau Try.prog Jxl := (JJ).add Jqy Jqx
def JiI : An := (.seq .leaf (.seq .leaf .leaf))
noncomputable def Jxm (f : Nat) (a_D : Int) (a_U : Int) (k : Res → Option Res) : Option Res :=
  bif decide (a_D ≥ 0) then
    bif decide (a_D ≤ 2) then
      bif decide (a_U ≥ 0) then
        k (Res.mk (PV.sc (Value.bool (decide (a_U ≤ 7)))) [] [])
      else k (Res.mk (PV.sc (Value.bool false)) [] [])
    else k (Res.mk (PV.sc (Value.bool false)) [] [])
  else k (Res.mk (PV.sc (Value.bool false)) [] [])
theorem JAs (f : Nat) (a_D : Int) (a_U : Int) (k : Res → Option Res) : JN tau Jxl Try.f162 (Try.f162.body.get!) JiI [.ro] 0 [.st 45 [.sc (.int .i64 a_D), .sc (.int .i64 a_U)]] [] k = Jxm f a_D a_U k := by kernel_rfl
theorem Jxn (f : Nat) : Ji (Try.f162.body.get!) JiI = [] := by kernel_rfl
theorem Jxo (f : Nat) : ∀ q ∈ Ji (Try.f162.body.get!) JiI, q.Ok tau Try.prog 0 := by
  rw [Jxn f]; intro q hq; cases hq
theorem Jqz : Try.prog.funcs[162]? = some Try.f162 := by kernel_rfl
theorem JqA : Try.f162.body = some (Try.f162.body.get!) := by kernel_rfl
theorem Jxp : Enters Try.prog 162 := enters_of Jqz (by kernel_rfl) JqA
noncomputable def Jg3 : List PV → List Ent → (Res → Option Res) → Option Res
  | [.st 45 [.sc (.int .i64 a_D), .sc (.int .i64 a_U)]], [], k => Jxm 0 a_D a_U k
  | _, _, _ => none
noncomputable def Jxq : Sig := { own := [], run := Jg3 }
theorem Jxr : Jk tau Try.prog 162 Jxq := JV Js Jn9 Jt Jqz JqA JiI [.ro] 0 [] Jg3 (Jxo 0) fun xs es k res hr => by
  unfold Jg3 at hr
  split at hr
  · exact ⟨rfl, 0, (JAs 0 _ _  _).trans hr⟩
  · cases hr
noncomputable def Jxs : Fns := JH 163 JsW (JH 162 Jxq (JH 160 Jls (F0)))
theorem Joa : JA tau Try.prog Jxs := (((JJ).add Jlt Jqj).add Jxr Jxp).add Jqy Jqx
def JiJ : An := (.seq .leaf (.seq (.seq .leaf (.cond (.seq .leaf .leaf) .leaf)) (.seq (.seq .leaf (.block none (.seq .leaf (.cond (.seq (.seq .leaf (.seq .leaf (.cond (.seq .leaf .leaf) .leaf))) (.seq .leaf (.cond (.seq .leaf .leaf) .leaf))) (.seq (.seq .leaf (.cond .leaf .leaf)) (.cond (.seq .leaf (.cond (.seq .leaf .leaf) .leaf)) (.seq .leaf .leaf))))))) (.seq .leaf .leaf))))
noncomputable def Job (f : Nat) (d_Author_D : Int) (d_Author_U : Int) (d_Id : Int) (d_Version : Int) (d_Hash : List PV) (d_Kind : Int) (d_Op_z : Bool) (d_Op_f : Bool) (d_Op : List PV) (d_Who_D : Int) (d_Who_U : Int) (k : Res → Option Res) : Option Res := bif decide (d_Author_D ≥ 0) then bif decide (d_Author_D ≤ 2) then bif decide (d_Author_U ≥ 0) then bif !decide (d_Author_U ≤ 7) then k (Res.mk (.sc (.int .i64 1)) [] []) else bif decide (d_Id ≥ 0) then bif !decide (d_Id ≤ 1073741824) then k (Res.mk (.sc (.int .i64 1)) [] []) else bif decide (d_Version ≥ 0) then bif !decide (d_Version ≤ 1048576) then k (Res.mk (.sc (.int .i64 1)) [] []) else bif d_Kind == 1 then bif cOk d_Op then bif ckO d_Op != 0 then k (Res.mk (.sc (.int .i64 (ckO d_Op))) [] []) else bif !(d_Who_D == 0 && (d_Who_U == 0 && true)) then k (Res.mk (.sc (.int .i64 1)) [] []) else k (Res.mk (.sc (.int .i64 0)) [] []) else none else bif d_Kind == 2 then bif d_Kind == 2 then bif decide (zi d_Op.length > 0) then k (Res.mk (.sc (.int .i64 1)) [] []) else bif decide (d_Who_D ≥ 0) then bif decide (d_Who_D ≤ 2) then bif decide (d_Who_U ≥ 0) then bif !decide (d_Who_U ≤ 7) then k (Res.mk (.sc (.int .i64 1)) [] []) else k (Res.mk (.sc (.int .i64 0)) [] []) else k (Res.mk (.sc (.int .i64 1)) [] []) else k (Res.mk (.sc (.int .i64 1)) [] []) else k (Res.mk (.sc (.int .i64 1)) [] []) else k (Res.mk (.sc (.int .i64 3)) [] []) else bif d_Kind == 3 then bif decide (zi d_Op.length > 0) then k (Res.mk (.sc (.int .i64 1)) [] []) else bif decide (d_Who_D ≥ 0) then bif decide (d_Who_D ≤ 2) then bif decide (d_Who_U ≥ 0) then bif !decide (d_Who_U ≤ 7) then k (Res.mk (.sc (.int .i64 1)) [] []) else k (Res.mk (.sc (.int .i64 0)) [] []) else k (Res.mk (.sc (.int .i64 1)) [] []) else k (Res.mk (.sc (.int .i64 1)) [] []) else k (Res.mk (.sc (.int .i64 1)) [] []) else k (Res.mk (.sc (.int .i64 3)) [] []) else k (Res.mk (.sc (.int .i64 1)) [] []) else k (Res.mk (.sc (.int .i64 1)) [] []) else k (Res.mk (.sc (.int .i64 1)) [] []) else k (Res.mk (.sc (.int .i64 1)) [] []) else k (Res.mk (.sc (.int .i64 1)) [] [])
theorem JAt (f : Nat) (d_Author_D : Int) (d_Author_U : Int) (d_Id : Int) (d_Version : Int) (d_Hash : List PV) (d_Kind : Int) (d_Op_z : Bool) (d_Op_f : Bool) (d_Op : List PV) (d_Who_D : Int) (d_Who_U : Int) (k : Res → Option Res) : JN tau Jxs Try.f144 (Try.f144.body.get!) JiJ [.ro] 0 [.st 73 [.st 45 [.sc (.int .i64 d_Author_D), .sc (.int .i64 d_Author_U)], .sc (.int .i64 d_Id), .sc (.int .i64 d_Version), .ar 37 d_Hash, .sc (.int .i64 d_Kind), .ro 99 d_Op_z d_Op_f d_Op, .st 45 [.sc (.int .i64 d_Who_D), .sc (.int .i64 d_Who_U)]]] [] k = Job f d_Author_D d_Author_U d_Id d_Version d_Hash d_Kind d_Op_z d_Op_f d_Op d_Who_D d_Who_U k := by kernel_rfl
theorem Jxt (f : Nat) : Ji (Try.f144.body.get!) JiJ = [] := by kernel_rfl
theorem Jxu (f : Nat) : ∀ q ∈ Ji (Try.f144.body.get!) JiJ, q.Ok tau Try.prog 0 := by
  rw [Jxt f]; intro q hq; cases hq
theorem JqB : Try.prog.funcs[144]? = some Try.f144 := by kernel_rfl
theorem JqC : Try.f144.body = some (Try.f144.body.get!) := by kernel_rfl
theorem Jxv : Enters Try.prog 144 := enters_of JqB (by kernel_rfl) JqC
noncomputable def Jg4 : List PV → List Ent → (Res → Option Res) → Option Res
  | [.st 73 [.st 45 [.sc (.int .i64 d_Author_D), .sc (.int .i64 d_Author_U)], .sc (.int .i64 d_Id), .sc (.int .i64 d_Version), .ar 37 d_Hash, .sc (.int .i64 d_Kind), .ro 99 d_Op_z d_Op_f d_Op, .st 45 [.sc (.int .i64 d_Who_D), .sc (.int .i64 d_Who_U)]]], [], k => Job 0 d_Author_D d_Author_U d_Id d_Version d_Hash d_Kind d_Op_z d_Op_f d_Op d_Who_D d_Who_U k
  | _, _, _ => none
noncomputable def JAu : Sig := { own := [], run := Jg4 }
theorem Jxw : Jk tau Try.prog 144 JAu := JV Js Joa Jt JqB JqC JiJ [.ro] 0 [] Jg4 (Jxu 0) fun xs es k res hr => by
  unfold Jg4 at hr
  split at hr
  · exact ⟨rfl, 0, (JAt 0 _ _ _ _ _ _ _ _ _ _ _  _).trans hr⟩
  · cases hr


noncomputable def F92 : Fns := F0
def JAv : An := (.seq .leaf (.seq .leaf .leaf))
noncomputable def g92 (f : Nat) (n : Int) (top : Int) (k : Res → Option Res) : Option Res := bif decide (n ≥ 0) then k (Res.mk (.sc (.bool (decide (n ≤ top)))) [] []) else k (Res.mk (.sc (.bool false)) [] [])
theorem e92 (f : Nat) (n : Int) (top : Int) (k : Res → Option Res) : JN tau F92 Try.f92 (Try.f92.body.get!) JAv [.ro] 0 [.sc (.int .i64 n), .sc (.int .i64 top)] [] k = g92 f n top k := by kernel_rfl

-- FN ref16.domain | ref16.Wave | ref16.number | ref8.User
def inZ (x m : Int) : Bool := decide (x ≥ 0) && decide (x ≤ m)

-- FN delta.Check | ref8.Check
noncomputable def JlI (d : DV) : Int :=
  bif inZ d.ad 2 && (inZ d.au 7 && (inZ d.id 1073741824 && inZ d.ve 1048576)) then
    (bif d.kd == 1 then (bif ckO d.o == 0 then (bif d.wd == 0 && d.wu == 0 then 0 else 1) else ckO d.o)
    else bif d.kd == 2 || d.kd == 3 then (bif d.o.isEmpty && (inZ d.wd 2 && inZ d.wu 7) then 0 else 1)
    else 3)
  else 1
noncomputable def dCk : DV → Int := hid JlI
theorem JdX (d : DV) : dCk d = JlI d := by rw [dCk, hid_eq]
theorem JdY (x m : Int) : inZ x m = (decide (x ≥ 0) && decide (x ≤ m)) := rfl
theorem JlJ (l : List PV) : decide (zi l.length > 0) = !l.isEmpty := by
  cases l with
  | nil => rfl
  | cons p ps => exact decide_eq_true (by simp only [zi, List.length_cons]; omega)
theorem Joc (ad au id1 ve : Int) (h : List PV) (kd : Int) (oz of : Bool) (o : List PV) (wd wu : Int) (hc : cOk o = true) (k : Res → Option Res) : Job 0 ad au id1 ve h kd oz of o wd wu k = k ⟨.sc (.int .i64 (dCk ⟨ad, au, id1, ve, h, kd, o, wd, wu⟩)), [], []⟩ := by
  rw [JdX]
  unfold Job JlI
  simp only [hc, JdY, JlJ, cond_true, bne]
  have h2 : (kd == 2) = true → (kd == 1) = false := fun h => by have : kd = 2 := by simpa using h
                                                                rw [this]; decide
  generalize o.isEmpty = e0
  generalize (kd == 1) = d1 at *
  generalize (kd == 2) = d2 at *
  generalize (kd == 3) = d3
  generalize (wd == 0) = w0
  generalize (wu == 0) = w1
  generalize hck : ckO o = ck
  cases decide (ad ≥ 0)
  · rfl
  cases decide (ad ≤ 2)
  · rfl
  cases decide (au ≥ 0)
  · rfl
  cases decide (au ≤ 7)
  · rfl
  cases decide (id1 ≥ 0)
  · rfl
  cases decide (id1 ≤ 1073741824)
  · rfl
  cases decide (ve ≥ 0)
  · rfl
  cases decide (ve ≤ 1048576)
  · rfl
  cases d1
  · cases d2
    · cases d3
      · rfl
      · cases e0 <;> cases decide (wd ≥ 0) <;> cases decide (wd ≤ 2) <;> cases decide (wu ≥ 0) <;> cases decide (wu ≤ 7) <;> rfl
    · cases e0 <;> cases decide (wd ≥ 0) <;> cases decide (wd ≤ 2) <;> cases decide (wu ≥ 0) <;> cases decide (wu ≤ 7) <;> rfl
  · cases ck == 0 <;> cases w0 <;> cases w1 <;> rfl
noncomputable def JdZ : List PV → List Ent → (Res → Option Res) → Option Res
  | [.st 73 [.st 45 [.sc (.int .i64 ad), .sc (.int .i64 au)], .sc (.int .i64 id1), .sc (.int .i64 ve), .ar 37 h, .sc (.int .i64 kd), .ro 99 oz of o, .st 45 [.sc (.int .i64 wd), .sc (.int .i64 wu)]]], [], k => bif cOk o then k ⟨.sc (.int .i64 (dCk ⟨ad, au, id1, ve, h, kd, o, wd, wu⟩)), [], []⟩ else none
  | _, _, _ => none
noncomputable def JqD : Sig := { own := [], run := JdZ }
theorem JsX : Jk tau Try.prog 144 JqD := Jxw.of fun xs es k res hr => by
  change JdZ xs es k = some res at hr
  unfold JdZ at hr
  split at hr
  · rename_i ad au id1 ve h kd oz of o wd wu
    obtain ⟨hc, hr⟩ := JL hr
    exact (Joc ad au id1 ve h kd oz of o wd wu hc k).trans hr
  · cases hr
def JbR : Nat := 62
noncomputable def JlK : Fns := JH 144 JqD (JH 143 Jqu (JH 135 Jkv (JH 133 Jrm (JH 132 Jrl (JH 78 s78 (JH 76 s76 (F0)))))))
theorem JiK : JA tau Try.prog JlK := (((((((JJ).add Jt4 Jt3).add JuT JuS).add Jo9 Jo8).add Jpd Jpc).add Jkw Jpg).add JsV Jxg).add JsX Jxv
noncomputable def GG : Code := Qy (Try.f103.body.get!) [1, 1, 1, 0, 1, 0, 0]
def WG : Nm := [(2, .any), (4, .any), (5, .any), (21, .any)]
def Xh : Nm := [(2, .any), (4, .any), (5, .any)]
def Jbu : An := (.seq .leaf (.seq (.cond .leaf .leaf) (.seq (.block none (.seq .leaf .leaf)) .leaf)))
def JiL (r0 : Q6) : An := (.seq .leaf (.seq .leaf (.seq .leaf (.seq (.seq .leaf (.block none (.sum WG JbR r0))) (.seq .leaf (.seq .leaf (.seq .leaf (.seq .leaf (.seq (.seq .leaf (.cond .leaf .leaf)) (.seq (.seq .leaf (.cond .leaf .leaf)) (.seq (.seq .leaf (.cond (.seq .leaf .leaf) .leaf)) (.seq .leaf .leaf))))))))))))
noncomputable def Zf (f : Nat) (rc : Int → Int → Int → Int → Int → List PV → Int → List PV → Int → Int → Bool → Bool → List PV → Int → Int → Int → Int → Int → List PV → Int → List PV → Int → Int → Option Res) (k0 : Int → Int → Int → Int → List PV → Int → List PV → Int → Int → Bool → Bool → List PV → Int → Int → Int → Int → Int → List PV → Int → List PV → Int → Int → Option Res) (v0 : Int) (v1 : Int) (v2 : Int) (v3 : Int) (v4 : Int) (v5 : List PV) (v6 : Int) (v7 : List PV) (v8 : Int) (v9 : Int) (v10 : Bool) (v11 : Bool) (v12 : List PV) (v13 : Int) (v14 : Int) (v15 : Int) (v16 : Int) (v17 : Int) (v18 : List PV) (v19 : Int) (v20 : List PV) (v21 : Int) (v22 : Int) : Option Res := bif decide (v0 < 32) then bif (!v10 || v11) && true && byB v12 then bif decide (0 ≤ v0) && decide (v0 < zi 32) && true then rc (IntKind.i64.wrap (v0 + 1)) v1 v2 v3 v4 v5 v6 v7 v8 v9 v10 v11 ((Jc 1 (RS.mk v12 v13)).b) ((Jc 1 (RS.mk v12 v13)).e) v14 v15 v16 v17 (v18.set v0.toNat (.sc (.int .u8 (IntKind.u8.wrap (JC 1 (RS.mk v12 v13)))))) v19 v20 v21 v22 else none else none else k0 v1 v2 v3 v4 v5 v6 v7 v8 v9 v10 v11 v12 v13 v14 v15 v16 v17 v18 v19 v20 v21 v22
noncomputable def Yb (f : Nat) (k0 : Int → Int → Int → Int → List
  PV → Int → List
  PV → Int → Int → Bool → Bool → List
  PV → Int → Int → Int → Int → Int → List
  PV → Int → List
  PV → Int → Int → Option Res) : Nat → Int → Int → Int → Int → Int → List
  PV → Int → List PV → Int → Int → Bool → Bool → List PV → Int → Int → Int → Int → Int → List PV → Int → List PV → Int → Int → Option Res
  | 0, _, _, _, _, _, _, _, _, _, _, _, _, _, _, _, _, _, _, _, _, _, _, _ => none
  | n + 1, v0, v1, v2, v3, v4, v5, v6, v7, v8, v9, v10, v11, v12, v13, v14, v15, v16, v17, v18, v19, v20, v21, v22 => Zf f (Yb f k0 n) k0 v0 v1 v2 v3 v4 v5 v6 v7 v8 v9 v10 v11 v12 v13 v14 v15 v16 v17 v18 v19 v20 v21 v22
theorem JlL (f : Nat) (k : Kont) (n : Nat) (v0 : Int) (v1 : Int) (v2 : Int) (v3 : Int) (v4 : Int) (v5 : List PV) (v6 : Int) (v7 : List PV) (v8 : Int) (v9 : Int) (v10 : Bool) (v11 : Bool) (v12 : List PV) (v13 : Int) (v14 : Int) (v15 : Int) (v16 : Int) (v17 : Int) (v18 : List PV) (v19 : Int) (v20 : List PV) (v21 : Int) (v22 : Int) : Jq tau 0 WG (fun s k => ev tau JlK 0 0 GG (Jbu ) s k) (n + 1) (Je WG JbR [.ptr 1008 [], .ptr 1009 [], .ptr 1010 [], .sc (.int .i64 v0)] [(1008, .box false 73 (PV.st 73 [.st 45 [.sc (.int .i64 v1), .sc (.int .i64 v2)], .sc (.int .i64 v3), .sc (.int .i64 v4), .ar 37 v5, .sc (.int .i64 v6), .ro 99 true true v7, .st 45 [.sc (.int .i64 v8), .sc (.int .i64 v9)]])), (1009, .box false 186 (PV.st 186 [.ro 5 v10 v11 v12, .sc (.int .i64 v13)])), (1010, .box false 73 (PV.st 73 [.st 45 [.sc (.int .i64 v14), .sc (.int .i64 v15)], .sc (.int .i64 v16), .sc (.int .i64 v17), .ar 37 v18, .sc (.int .i64 v19), .ro 99 true true v20, .st 45 [.sc (.int .i64 v21), .sc (.int .i64 v22)]]))]) (Jz tau 0 Xh k) = Zf f (fun v0 v1 v2 v3 v4 v5 v6 v7 v8 v9 v10 v11 v12 v13 v14 v15 v16 v17 v18 v19 v20 v21 v22 => Jq tau 0 WG (fun s k => ev tau JlK 0 0 GG (Jbu ) s k) n (Je WG JbR [.ptr 1008 [], .ptr 1009 [], .ptr 1010 [], .sc (.int .i64 v0)] [(1008, .box false 73 (PV.st 73 [.st 45 [.sc (.int .i64 v1), .sc (.int .i64 v2)], .sc (.int .i64 v3), .sc (.int .i64 v4), .ar 37 v5, .sc (.int .i64 v6), .ro 99 true true v7, .st 45 [.sc (.int .i64 v8), .sc (.int .i64 v9)]])), (1009, .box false 186 (PV.st 186 [.ro 5 v10 v11 v12, .sc (.int .i64 v13)])), (1010, .box false 73 (PV.st 73 [.st 45 [.sc (.int .i64 v14), .sc (.int .i64 v15)], .sc (.int .i64 v16), .sc (.int .i64 v17), .ar 37 v18, .sc (.int .i64 v19), .ro 99 true true v20, .st 45 [.sc (.int .i64 v21), .sc (.int .i64 v22)]]))]) (Jz tau 0 Xh k)) (fun x0 x1 x2 x3 x4 x5 x6 x7 x8 x9 x10 x11 x12 x13 x14 x15 x16 x17 x18 x19 x20 x21 => k (Ex.exit 0) (Je Xh JbR [.ptr 1008 [], .ptr 1009 [], .ptr 1010 []] [(1008, .box false 73 (PV.st 73 [.st 45 [.sc (.int .i64 x0), .sc (.int .i64 x1)], .sc (.int .i64 x2), .sc (.int .i64 x3), .ar 37 x4, .sc (.int .i64 x5), .ro 99 true true x6, .st 45 [.sc (.int .i64 x7), .sc (.int .i64 x8)]])), (1009, .box false 186 (PV.st 186 [.ro 5 x9 x10 x11, .sc (.int .i64 x12)])), (1010, .box false 73 (PV.st 73 [.st 45 [.sc (.int .i64 x13), .sc (.int .i64 x14)], .sc (.int .i64 x15), .sc (.int .i64 x16), .ar 37 x17, .sc (.int .i64 x18), .ro 99 true true x19, .st 45 [.sc (.int .i64 x20), .sc (.int .i64 x21)]]))])) v0 v1 v2 v3 v4 v5 v6 v7 v8 v9 v10 v11 v12 v13 v14 v15 v16 v17 v18 v19 v20 v21 v22 := by kernel_rfl
theorem Jfl (f : Nat) (k : Kont) : ∀ (n : Nat) (v0 : Int) (v1 : Int) (v2 : Int) (v3 : Int) (v4 : Int) (v5 : List PV) (v6 : Int) (v7 : List PV) (v8 : Int) (v9 : Int) (v10 : Bool) (v11 : Bool) (v12 : List PV) (v13 : Int) (v14 : Int) (v15 : Int) (v16 : Int) (v17 : Int) (v18 : List PV) (v19 : Int) (v20 : List PV) (v21 : Int) (v22 : Int), Jq tau 0 WG (fun s k => ev tau JlK 0 0 GG (Jbu ) s k) n (Je WG JbR [.ptr 1008 [], .ptr 1009 [], .ptr 1010 [], .sc (.int .i64 v0)] [(1008, .box false 73 (PV.st 73 [.st 45 [.sc (.int .i64 v1), .sc (.int .i64 v2)], .sc (.int .i64 v3), .sc (.int .i64 v4), .ar 37 v5, .sc (.int .i64 v6), .ro 99 true true v7, .st 45 [.sc (.int .i64 v8), .sc (.int .i64 v9)]])), (1009, .box false 186 (PV.st 186 [.ro 5 v10 v11 v12, .sc (.int .i64 v13)])), (1010, .box false 73 (PV.st 73 [.st 45 [.sc (.int .i64 v14), .sc (.int .i64 v15)], .sc (.int .i64 v16), .sc (.int .i64 v17), .ar 37 v18, .sc (.int .i64 v19), .ro 99 true true v20, .st 45 [.sc (.int .i64 v21), .sc (.int .i64 v22)]]))]) (Jz tau 0 Xh k) = Yb f (fun x0 x1 x2 x3 x4 x5 x6 x7 x8 x9 x10 x11 x12 x13 x14 x15 x16 x17 x18 x19 x20 x21 => k (Ex.exit 0) (Je Xh JbR [.ptr 1008 [], .ptr 1009 [], .ptr 1010 []] [(1008, .box false 73 (PV.st 73 [.st 45 [.sc (.int .i64 x0), .sc (.int .i64 x1)], .sc (.int .i64 x2), .sc (.int .i64 x3), .ar 37 x4, .sc (.int .i64 x5), .ro 99 true true x6, .st 45 [.sc (.int .i64 x7), .sc (.int .i64 x8)]])), (1009, .box false 186 (PV.st 186 [.ro 5 x9 x10 x11, .sc (.int .i64 x12)])), (1010, .box false 73 (PV.st 73 [.st 45 [.sc (.int .i64 x13), .sc (.int .i64 x14)], .sc (.int .i64 x15), .sc (.int .i64 x16), .ar 37 x17, .sc (.int .i64 x18), .ro 99 true true x19, .st 45 [.sc (.int .i64 x20), .sc (.int .i64 x21)]]))])) n v0 v1 v2 v3 v4 v5 v6 v7 v8 v9 v10 v11 v12 v13 v14 v15 v16 v17 v18 v19 v20 v21 v22 | 0, _, _, _, _, _, _, _, _, _, _, _, _, _, _, _, _, _, _, _, _, _, _, _ => rfl | n + 1, v0, v1, v2, v3, v4, v5, v6, v7, v8, v9, v10, v11, v12, v13, v14, v15, v16, v17, v18, v19, v20, v21, v22 => (JlL f k n v0 v1 v2 v3 v4 v5 v6 v7 v8 v9 v10 v11 v12 v13 v14 v15 v16 v17 v18 v19 v20 v21 v22).trans (congrArg (fun r => Zf f r (fun x0 x1 x2 x3 x4 x5 x6 x7 x8 x9 x10 x11 x12 x13 x14 x15 x16 x17 x18 x19 x20 x21 => k (Ex.exit 0) (Je Xh JbR [.ptr 1008 [], .ptr 1009 [], .ptr 1010 []] [(1008, .box false 73 (PV.st 73 [.st 45 [.sc (.int .i64 x0), .sc (.int .i64 x1)], .sc (.int .i64 x2), .sc (.int .i64 x3), .ar 37 x4, .sc (.int .i64 x5), .ro 99 true true x6, .st 45 [.sc (.int .i64 x7), .sc (.int .i64 x8)]])), (1009, .box false 186 (PV.st 186 [.ro 5 x9 x10 x11, .sc (.int .i64 x12)])), (1010, .box false 73 (PV.st 73 [.st 45 [.sc (.int .i64 x13), .sc (.int .i64 x14)], .sc (.int .i64 x15), .sc (.int .i64 x16), .ar 37 x17, .sc (.int .i64 x18), .ro 99 true true x19, .st 45 [.sc (.int .i64 x20), .sc (.int .i64 x21)]]))])) v0 v1 v2 v3 v4 v5 v6 v7 v8 v9 v10 v11 v12 v13 v14 v15 v16 v17 v18 v19 v20 v21 v22) (by funext v0 v1 v2 v3 v4 v5 v6 v7 v8 v9 v10 v11 v12 v13 v14 v15 v16 v17 v18 v19 v20 v21 v22; exact Jfl f k n v0 v1 v2 v3 v4 v5 v6 v7 v8 v9 v10 v11 v12 v13 v14 v15 v16 v17 v18 v19 v20 v21 v22))
noncomputable def Vf (f : Nat) : List PV → List (Nat × Ent) → Kont → Option Res
  | [.ptr 1008 [], .ptr 1009 [], .ptr 1010 [],
  PV.sc
    (Value.int IntKind.i64
      v0)], [(1008,
    Ent.box false 73
      (PV.st 73
        [.st 45 [.sc (.int .i64 v1), .sc (.int .i64 v2)], .sc (.int .i64 v3), .sc (.int .i64 v4), .ar 37 v5,
          .sc (.int .i64 v6), .ro 99 true true v7, .st 45 [.sc (.int .i64 v8), .sc (.int .i64 v9)]])),
  (1009, .box false 186 (PV.st 186 [.ro 5 v10 v11 v12, .sc (.int .i64 v13)])),
  (1010,
    Ent.box false 73
      (PV.st 73
        [.st 45 [.sc (.int .i64 v14), .sc (.int .i64 v15)], .sc (.int .i64 v16), .sc (.int .i64 v17), .ar 37 v18,
          .sc (.int .i64 v19), .ro 99 true true v20,
          PV.st 45
            [.sc (.int .i64 v21),
              PV.sc
                (Value.int IntKind.i64
                  v22)]]))], k => Yb f (fun x0 x1 x2 x3 x4 x5 x6 x7 x8 x9 x10 x11 x12 x13 x14 x15 x16 x17 x18 x19 x20 x21 => k (Ex.exit
  0) (Je Xh JbR [.ptr 1008 [], .ptr 1009 [],
  PV.ptr 1010
    []] [(1008,
    Ent.box false 73
      (PV.st 73
        [.st 45 [.sc (.int .i64 x0), .sc (.int .i64 x1)], .sc (.int .i64 x2), .sc (.int .i64 x3), .ar 37 x4,
          .sc (.int .i64 x5), .ro 99 true true x6, .st 45 [.sc (.int .i64 x7), .sc (.int .i64 x8)]])),
  (1009, .box false 186 (PV.st 186 [.ro 5 x9 x10 x11, .sc (.int .i64 x12)])),
  (1010,
    Ent.box false 73
      (PV.st 73
        [.st 45 [.sc (.int .i64 x13), .sc (.int .i64 x14)], .sc (.int .i64 x15), .sc (.int .i64 x16), .ar 37 x17,
          .sc (.int .i64 x18), .ro 99 true true x19,
          PV.st 45 [.sc (.int .i64 x20), .sc (.int .i64 x21)]]))])) f v0 v1 v2 v3 v4 v5 v6 v7 v8 v9 v10 v11 v12 v13 v14 v15 v16 v17 v18 v19 v20 v21 v22
  | _, _, _ => none
theorem Jod (f : Nat) : Ji GG Jbu = [] := by kernel_rfl
theorem JsY (f : Nat) : (Item.l GG WG JbR (Vf f)).Ok tau Try.prog 0 := JM Js JiK Jt (x := Jbu) (nm2 := Xh) (Jr _ _ (by rw [Jod f]; intro q hq; cases hq)) fun vs hp k res hr => by
  unfold Vf at hr
  split at hr
  · exact ⟨f, 0, (Jfl f _ f _ _ _ _ _ _ _ _ _ _ _ _ _ _ _ _ _ _ _ _ _ _ _ ).trans hr⟩
  · cases hr
noncomputable def JsZ (f : Nat) (b_z : Bool) (b_f : Bool) (b : List PV) (k : Res → Option Res) : Option Res := bif slB b_z b then bif (!b_z || b_z) && true && byB b then bif (!b_z || b_z) && true && byB (Jc 8 (RS.mk b 0)).b then bif (!b_z || b_z) && true && byB (Jc 8 (Jc 8 (RS.mk b 0))).b then bif (!b_z || b_z) && true && byB (Jc 8 (Jc 8 (Jc 8 (RS.mk b 0)))).b then Yb f (fun x0_0 x1_0 x2_0 x3_0 x4_0 x5_0 x6_0 x7_0 x8_0 x9_0 x10_0 x11_0 x12_0 x13_0 x14_0 x15_0 x16_0 x17_0 x18_0 x19_0 x20_0 x21_0 => bif (!x9_0 || x10_0) && true && byB x11_0 then bif (!x9_0 || x10_0) && byB (Jc 1 (RS.mk x11_0 x12_0)).b then bif (!x9_0 || x10_0) && true && byB (J5 (Jc 1 (RS.mk x11_0 x12_0))).b then bif (!x9_0 || x10_0) && true && byB (Jc 8 (J5 (Jc 1 (RS.mk x11_0 x12_0)))).b then bif (Jc 8 (Jc 8 (J5 (Jc 1 (RS.mk x11_0 x12_0))))).e == 0 then bif decide (zi (Jc 8 (Jc 8 (J5 (Jc 1 (RS.mk x11_0 x12_0))))).b.length > 0) then k (Res.mk (.tup [.st 73 [.st 45 [.sc (.int .i64 0), .sc (.int .i64 0)], .sc (.int .i64 0), .sc (.int .i64 0), .ar 37 [.sc (.int .u8 0), .sc (.int .u8 0), .sc (.int .u8 0), .sc (.int .u8 0), .sc (.int .u8 0), .sc (.int .u8 0), .sc (.int .u8 0), .sc (.int .u8 0), .sc (.int .u8 0), .sc (.int .u8 0), .sc (.int .u8 0), .sc (.int .u8 0), .sc (.int .u8 0), .sc (.int .u8 0), .sc (.int .u8 0), .sc (.int .u8 0), .sc (.int .u8 0), .sc (.int .u8 0), .sc (.int .u8 0), .sc (.int .u8 0), .sc (.int .u8 0), .sc (.int .u8 0), .sc (.int .u8 0), .sc (.int .u8 0), .sc (.int .u8 0), .sc (.int .u8 0), .sc (.int .u8 0), .sc (.int .u8 0), .sc (.int .u8 0), .sc (.int .u8 0), .sc (.int .u8 0), .sc (.int .u8 0)], .sc (.int .i64 0), .ro 99 true true [], .st 45 [.sc (.int .i64 0), .sc (.int .i64 0)]], .sc (.int .i64 9)]) [] []) else bif (Jc 8 (Jc 8 (J5 (Jc 1 (RS.mk x11_0 x12_0))))).e == 0 then bif Jj (JS (Jc 1 (RS.mk x11_0 x12_0))).size 1 && true then bif slB (Ent.vec false 5 false (Jp (JS (Jc 1 (RS.mk x11_0 x12_0))))).nil (List.take (JS (Jc 1 (RS.mk x11_0 x12_0))).size (List.drop 0 (Jp (JS (Jc 1 (RS.mk x11_0 x12_0)))))) && byB (List.take (JS (Jc 1 (RS.mk x11_0 x12_0))).size (Jp (JS (Jc 1 (RS.mk x11_0 x12_0))))) then bif opE (List.take (JS (Jc 1 (RS.mk x11_0 x12_0))).size (Jp (JS (Jc 1 (RS.mk x11_0 x12_0))))) == 0 then bif cOk (opL (List.take (JS (Jc 1 (RS.mk x11_0 x12_0))).size (Jp (JS (Jc 1 (RS.mk x11_0 x12_0)))))) then bif dCk (DV.mk x13_0 x14_0 x15_0 x16_0 x17_0 (JC 1 (RS.mk x11_0 x12_0)) (opL (List.take (JS (Jc 1 (RS.mk x11_0 x12_0))).size (Jp (JS (Jc 1 (RS.mk x11_0 x12_0)))))) (JC 8 (J5 (Jc 1 (RS.mk x11_0 x12_0)))) (JC 8 (Jc 8 (J5 (Jc 1 (RS.mk x11_0 x12_0)))))) != 0 then k (Res.mk (.tup [.st 73 [.st 45 [.sc (.int .i64 0), .sc (.int .i64 0)], .sc (.int .i64 0), .sc (.int .i64 0), .ar 37 [.sc (.int .u8 0), .sc (.int .u8 0), .sc (.int .u8 0), .sc (.int .u8 0), .sc (.int .u8 0), .sc (.int .u8 0), .sc (.int .u8 0), .sc (.int .u8 0), .sc (.int .u8 0), .sc (.int .u8 0), .sc (.int .u8 0), .sc (.int .u8 0), .sc (.int .u8 0), .sc (.int .u8 0), .sc (.int .u8 0), .sc (.int .u8 0), .sc (.int .u8 0), .sc (.int .u8 0), .sc (.int .u8 0), .sc (.int .u8 0), .sc (.int .u8 0), .sc (.int .u8 0), .sc (.int .u8 0), .sc (.int .u8 0), .sc (.int .u8 0), .sc (.int .u8 0), .sc (.int .u8 0), .sc (.int .u8 0), .sc (.int .u8 0), .sc (.int .u8 0), .sc (.int .u8 0), .sc (.int .u8 0)], .sc (.int .i64 0), .ro 99 true true [], .st 45 [.sc (.int .i64 0), .sc (.int .i64 0)]], .sc (.int .i64 (dCk (DV.mk x13_0 x14_0 x15_0 x16_0 x17_0 (JC 1 (RS.mk x11_0 x12_0)) (opL (List.take (JS (Jc 1 (RS.mk x11_0 x12_0))).size (Jp (JS (Jc 1 (RS.mk x11_0 x12_0)))))) (JC 8 (J5 (Jc 1 (RS.mk x11_0 x12_0)))) (JC 8 (Jc 8 (J5 (Jc 1 (RS.mk x11_0 x12_0))))))))]) [] []) else k (Res.mk (.tup [.st 73 [.st 45 [.sc (.int .i64 x13_0), .sc (.int .i64 x14_0)], .sc (.int .i64 x15_0), .sc (.int .i64 x16_0), .ar 37 x17_0, .sc (.int .i64 (JC 1 (RS.mk x11_0 x12_0))), .ro 99 (opL (List.take (JS (Jc 1 (RS.mk x11_0 x12_0))).size (Jp (JS (Jc 1 (RS.mk x11_0 x12_0)))))).isEmpty (opL (List.take (JS (Jc 1 (RS.mk x11_0 x12_0))).size (Jp (JS (Jc 1 (RS.mk x11_0 x12_0)))))).isEmpty (opL (List.take (JS (Jc 1 (RS.mk x11_0 x12_0))).size (Jp (JS (Jc 1 (RS.mk x11_0 x12_0)))))), .st 45 [.sc (.int .i64 (JC 8 (J5 (Jc 1 (RS.mk x11_0 x12_0))))), .sc (.int .i64 (JC 8 (Jc 8 (J5 (Jc 1 (RS.mk x11_0 x12_0))))))]], .sc (.int .i64 0)]) [] []) else none else bif opE (List.take (JS (Jc 1 (RS.mk x11_0 x12_0))).size (Jp (JS (Jc 1 (RS.mk x11_0 x12_0))))) != 0 then k (Res.mk (.tup [.st 73 [.st 45 [.sc (.int .i64 0), .sc (.int .i64 0)], .sc (.int .i64 0), .sc (.int .i64 0), .ar 37 [.sc (.int .u8 0), .sc (.int .u8 0), .sc (.int .u8 0), .sc (.int .u8 0), .sc (.int .u8 0), .sc (.int .u8 0), .sc (.int .u8 0), .sc (.int .u8 0), .sc (.int .u8 0), .sc (.int .u8 0), .sc (.int .u8 0), .sc (.int .u8 0), .sc (.int .u8 0), .sc (.int .u8 0), .sc (.int .u8 0), .sc (.int .u8 0), .sc (.int .u8 0), .sc (.int .u8 0), .sc (.int .u8 0), .sc (.int .u8 0), .sc (.int .u8 0), .sc (.int .u8 0), .sc (.int .u8 0), .sc (.int .u8 0), .sc (.int .u8 0), .sc (.int .u8 0), .sc (.int .u8 0), .sc (.int .u8 0), .sc (.int .u8 0), .sc (.int .u8 0), .sc (.int .u8 0), .sc (.int .u8 0)], .sc (.int .i64 0), .ro 99 true true [], .st 45 [.sc (.int .i64 0), .sc (.int .i64 0)]], .sc (.int .i64 (opE (List.take (JS (Jc 1 (RS.mk x11_0 x12_0))).size (Jp (JS (Jc 1 (RS.mk x11_0 x12_0)))))))]) [] []) else k (Res.mk (.tup [.st 73 [.st 45 [.sc (.int .i64 x13_0), .sc (.int .i64 x14_0)], .sc (.int .i64 x15_0), .sc (.int .i64 x16_0), .ar 37 x17_0, .sc (.int .i64 (JC 1 (RS.mk x11_0 x12_0))), .ro 99 (opL (List.take (JS (Jc 1 (RS.mk x11_0 x12_0))).size (Jp (JS (Jc 1 (RS.mk x11_0 x12_0)))))).isEmpty (opL (List.take (JS (Jc 1 (RS.mk x11_0 x12_0))).size (Jp (JS (Jc 1 (RS.mk x11_0 x12_0)))))).isEmpty (opL (List.take (JS (Jc 1 (RS.mk x11_0 x12_0))).size (Jp (JS (Jc 1 (RS.mk x11_0 x12_0)))))), .st 45 [.sc (.int .i64 (JC 8 (J5 (Jc 1 (RS.mk x11_0 x12_0))))), .sc (.int .i64 (JC 8 (Jc 8 (J5 (Jc 1 (RS.mk x11_0 x12_0))))))]], .sc (.int .i64 0)]) [] []) else none else none else bif (Jc 8 (Jc 8 (J5 (Jc 1 (RS.mk x11_0 x12_0))))).e == 0 then bif cOk x19_0 then bif dCk (DV.mk x13_0 x14_0 x15_0 x16_0 x17_0 (JC 1 (RS.mk x11_0 x12_0)) x19_0 (JC 8 (J5 (Jc 1 (RS.mk x11_0 x12_0)))) (JC 8 (Jc 8 (J5 (Jc 1 (RS.mk x11_0 x12_0)))))) != 0 then k (Res.mk (.tup [.st 73 [.st 45 [.sc (.int .i64 0), .sc (.int .i64 0)], .sc (.int .i64 0), .sc (.int .i64 0), .ar 37 [.sc (.int .u8 0), .sc (.int .u8 0), .sc (.int .u8 0), .sc (.int .u8 0), .sc (.int .u8 0), .sc (.int .u8 0), .sc (.int .u8 0), .sc (.int .u8 0), .sc (.int .u8 0), .sc (.int .u8 0), .sc (.int .u8 0), .sc (.int .u8 0), .sc (.int .u8 0), .sc (.int .u8 0), .sc (.int .u8 0), .sc (.int .u8 0), .sc (.int .u8 0), .sc (.int .u8 0), .sc (.int .u8 0), .sc (.int .u8 0), .sc (.int .u8 0), .sc (.int .u8 0), .sc (.int .u8 0), .sc (.int .u8 0), .sc (.int .u8 0), .sc (.int .u8 0), .sc (.int .u8 0), .sc (.int .u8 0), .sc (.int .u8 0), .sc (.int .u8 0), .sc (.int .u8 0), .sc (.int .u8 0)], .sc (.int .i64 0), .ro 99 true true [], .st 45 [.sc (.int .i64 0), .sc (.int .i64 0)]], .sc (.int .i64 (dCk (DV.mk x13_0 x14_0 x15_0 x16_0 x17_0 (JC 1 (RS.mk x11_0 x12_0)) x19_0 (JC 8 (J5 (Jc 1 (RS.mk x11_0 x12_0)))) (JC 8 (Jc 8 (J5 (Jc 1 (RS.mk x11_0 x12_0))))))))]) [] []) else k (Res.mk (.tup [.st 73 [.st 45 [.sc (.int .i64 x13_0), .sc (.int .i64 x14_0)], .sc (.int .i64 x15_0), .sc (.int .i64 x16_0), .ar 37 x17_0, .sc (.int .i64 (JC 1 (RS.mk x11_0 x12_0))), .ro 99 true true x19_0, .st 45 [.sc (.int .i64 (JC 8 (J5 (Jc 1 (RS.mk x11_0 x12_0))))), .sc (.int .i64 (JC 8 (Jc 8 (J5 (Jc 1 (RS.mk x11_0 x12_0))))))]], .sc (.int .i64 0)]) [] []) else none else bif (Jc 8 (Jc 8 (J5 (Jc 1 (RS.mk x11_0 x12_0))))).e != 0 then k (Res.mk (.tup [.st 73 [.st 45 [.sc (.int .i64 0), .sc (.int .i64 0)], .sc (.int .i64 0), .sc (.int .i64 0), .ar 37 [.sc (.int .u8 0), .sc (.int .u8 0), .sc (.int .u8 0), .sc (.int .u8 0), .sc (.int .u8 0), .sc (.int .u8 0), .sc (.int .u8 0), .sc (.int .u8 0), .sc (.int .u8 0), .sc (.int .u8 0), .sc (.int .u8 0), .sc (.int .u8 0), .sc (.int .u8 0), .sc (.int .u8 0), .sc (.int .u8 0), .sc (.int .u8 0), .sc (.int .u8 0), .sc (.int .u8 0), .sc (.int .u8 0), .sc (.int .u8 0), .sc (.int .u8 0), .sc (.int .u8 0), .sc (.int .u8 0), .sc (.int .u8 0), .sc (.int .u8 0), .sc (.int .u8 0), .sc (.int .u8 0), .sc (.int .u8 0), .sc (.int .u8 0), .sc (.int .u8 0), .sc (.int .u8 0), .sc (.int .u8 0)], .sc (.int .i64 0), .ro 99 true true [], .st 45 [.sc (.int .i64 0), .sc (.int .i64 0)]], .sc (.int .i64 (Jc 8 (Jc 8 (J5 (Jc 1 (RS.mk x11_0 x12_0))))).e)]) [] []) else k (Res.mk (.tup [.st 73 [.st 45 [.sc (.int .i64 x13_0), .sc (.int .i64 x14_0)], .sc (.int .i64 x15_0), .sc (.int .i64 x16_0), .ar 37 x17_0, .sc (.int .i64 (JC 1 (RS.mk x11_0 x12_0))), .ro 99 true true x19_0, .st 45 [.sc (.int .i64 (JC 8 (J5 (Jc 1 (RS.mk x11_0 x12_0))))), .sc (.int .i64 (JC 8 (Jc 8 (J5 (Jc 1 (RS.mk x11_0 x12_0))))))]], .sc (.int .i64 0)]) [] []) else bif (Jc 8 (Jc 8 (J5 (Jc 1 (RS.mk x11_0 x12_0))))).e == 0 then bif Jj (JS (Jc 1 (RS.mk x11_0 x12_0))).size 1 && true then bif slB (Ent.vec false 5 false (Jp (JS (Jc 1 (RS.mk x11_0 x12_0))))).nil (List.take (JS (Jc 1 (RS.mk x11_0 x12_0))).size (List.drop 0 (Jp (JS (Jc 1 (RS.mk x11_0 x12_0)))))) && byB (List.take (JS (Jc 1 (RS.mk x11_0 x12_0))).size (Jp (JS (Jc 1 (RS.mk x11_0 x12_0))))) then bif opE (List.take (JS (Jc 1 (RS.mk x11_0 x12_0))).size (Jp (JS (Jc 1 (RS.mk x11_0 x12_0))))) == 0 then bif cOk (opL (List.take (JS (Jc 1 (RS.mk x11_0 x12_0))).size (Jp (JS (Jc 1 (RS.mk x11_0 x12_0)))))) then bif dCk (DV.mk x13_0 x14_0 x15_0 x16_0 x17_0 (JC 1 (RS.mk x11_0 x12_0)) (opL (List.take (JS (Jc 1 (RS.mk x11_0 x12_0))).size (Jp (JS (Jc 1 (RS.mk x11_0 x12_0)))))) (JC 8 (J5 (Jc 1 (RS.mk x11_0 x12_0)))) (JC 8 (Jc 8 (J5 (Jc 1 (RS.mk x11_0 x12_0)))))) != 0 then k (Res.mk (.tup [.st 73 [.st 45 [.sc (.int .i64 0), .sc (.int .i64 0)], .sc (.int .i64 0), .sc (.int .i64 0), .ar 37 [.sc (.int .u8 0), .sc (.int .u8 0), .sc (.int .u8 0), .sc (.int .u8 0), .sc (.int .u8 0), .sc (.int .u8 0), .sc (.int .u8 0), .sc (.int .u8 0), .sc (.int .u8 0), .sc (.int .u8 0), .sc (.int .u8 0), .sc (.int .u8 0), .sc (.int .u8 0), .sc (.int .u8 0), .sc (.int .u8 0), .sc (.int .u8 0), .sc (.int .u8 0), .sc (.int .u8 0), .sc (.int .u8 0), .sc (.int .u8 0), .sc (.int .u8 0), .sc (.int .u8 0), .sc (.int .u8 0), .sc (.int .u8 0), .sc (.int .u8 0), .sc (.int .u8 0), .sc (.int .u8 0), .sc (.int .u8 0), .sc (.int .u8 0), .sc (.int .u8 0), .sc (.int .u8 0), .sc (.int .u8 0)], .sc (.int .i64 0), .ro 99 true true [], .st 45 [.sc (.int .i64 0), .sc (.int .i64 0)]], .sc (.int .i64 (dCk (DV.mk x13_0 x14_0 x15_0 x16_0 x17_0 (JC 1 (RS.mk x11_0 x12_0)) (opL (List.take (JS (Jc 1 (RS.mk x11_0 x12_0))).size (Jp (JS (Jc 1 (RS.mk x11_0 x12_0)))))) (JC 8 (J5 (Jc 1 (RS.mk x11_0 x12_0)))) (JC 8 (Jc 8 (J5 (Jc 1 (RS.mk x11_0 x12_0))))))))]) [] []) else k (Res.mk (.tup [.st 73 [.st 45 [.sc (.int .i64 x13_0), .sc (.int .i64 x14_0)], .sc (.int .i64 x15_0), .sc (.int .i64 x16_0), .ar 37 x17_0, .sc (.int .i64 (JC 1 (RS.mk x11_0 x12_0))), .ro 99 (opL (List.take (JS (Jc 1 (RS.mk x11_0 x12_0))).size (Jp (JS (Jc 1 (RS.mk x11_0 x12_0)))))).isEmpty (opL (List.take (JS (Jc 1 (RS.mk x11_0 x12_0))).size (Jp (JS (Jc 1 (RS.mk x11_0 x12_0)))))).isEmpty (opL (List.take (JS (Jc 1 (RS.mk x11_0 x12_0))).size (Jp (JS (Jc 1 (RS.mk x11_0 x12_0)))))), .st 45 [.sc (.int .i64 (JC 8 (J5 (Jc 1 (RS.mk x11_0 x12_0))))), .sc (.int .i64 (JC 8 (Jc 8 (J5 (Jc 1 (RS.mk x11_0 x12_0))))))]], .sc (.int .i64 0)]) [] []) else none else bif opE (List.take (JS (Jc 1 (RS.mk x11_0 x12_0))).size (Jp (JS (Jc 1 (RS.mk x11_0 x12_0))))) != 0 then k (Res.mk (.tup [.st 73 [.st 45 [.sc (.int .i64 0), .sc (.int .i64 0)], .sc (.int .i64 0), .sc (.int .i64 0), .ar 37 [.sc (.int .u8 0), .sc (.int .u8 0), .sc (.int .u8 0), .sc (.int .u8 0), .sc (.int .u8 0), .sc (.int .u8 0), .sc (.int .u8 0), .sc (.int .u8 0), .sc (.int .u8 0), .sc (.int .u8 0), .sc (.int .u8 0), .sc (.int .u8 0), .sc (.int .u8 0), .sc (.int .u8 0), .sc (.int .u8 0), .sc (.int .u8 0), .sc (.int .u8 0), .sc (.int .u8 0), .sc (.int .u8 0), .sc (.int .u8 0), .sc (.int .u8 0), .sc (.int .u8 0), .sc (.int .u8 0), .sc (.int .u8 0), .sc (.int .u8 0), .sc (.int .u8 0), .sc (.int .u8 0), .sc (.int .u8 0), .sc (.int .u8 0), .sc (.int .u8 0), .sc (.int .u8 0), .sc (.int .u8 0)], .sc (.int .i64 0), .ro 99 true true [], .st 45 [.sc (.int .i64 0), .sc (.int .i64 0)]], .sc (.int .i64 (opE (List.take (JS (Jc 1 (RS.mk x11_0 x12_0))).size (Jp (JS (Jc 1 (RS.mk x11_0 x12_0)))))))]) [] []) else k (Res.mk (.tup [.st 73 [.st 45 [.sc (.int .i64 x13_0), .sc (.int .i64 x14_0)], .sc (.int .i64 x15_0), .sc (.int .i64 x16_0), .ar 37 x17_0, .sc (.int .i64 (JC 1 (RS.mk x11_0 x12_0))), .ro 99 (opL (List.take (JS (Jc 1 (RS.mk x11_0 x12_0))).size (Jp (JS (Jc 1 (RS.mk x11_0 x12_0)))))).isEmpty (opL (List.take (JS (Jc 1 (RS.mk x11_0 x12_0))).size (Jp (JS (Jc 1 (RS.mk x11_0 x12_0)))))).isEmpty (opL (List.take (JS (Jc 1 (RS.mk x11_0 x12_0))).size (Jp (JS (Jc 1 (RS.mk x11_0 x12_0)))))), .st 45 [.sc (.int .i64 (JC 8 (J5 (Jc 1 (RS.mk x11_0 x12_0))))), .sc (.int .i64 (JC 8 (Jc 8 (J5 (Jc 1 (RS.mk x11_0 x12_0))))))]], .sc (.int .i64 0)]) [] []) else none else none else bif (Jc 8 (Jc 8 (J5 (Jc 1 (RS.mk x11_0 x12_0))))).e == 0 then bif cOk x19_0 then bif dCk (DV.mk x13_0 x14_0 x15_0 x16_0 x17_0 (JC 1 (RS.mk x11_0 x12_0)) x19_0 (JC 8 (J5 (Jc 1 (RS.mk x11_0 x12_0)))) (JC 8 (Jc 8 (J5 (Jc 1 (RS.mk x11_0 x12_0)))))) != 0 then k (Res.mk (.tup [.st 73 [.st 45 [.sc (.int .i64 0), .sc (.int .i64 0)], .sc (.int .i64 0), .sc (.int .i64 0), .ar 37 [.sc (.int .u8 0), .sc (.int .u8 0), .sc (.int .u8 0), .sc (.int .u8 0), .sc (.int .u8 0), .sc (.int .u8 0), .sc (.int .u8 0), .sc (.int .u8 0), .sc (.int .u8 0), .sc (.int .u8 0), .sc (.int .u8 0), .sc (.int .u8 0), .sc (.int .u8 0), .sc (.int .u8 0), .sc (.int .u8 0), .sc (.int .u8 0), .sc (.int .u8 0), .sc (.int .u8 0), .sc (.int .u8 0), .sc (.int .u8 0), .sc (.int .u8 0), .sc (.int .u8 0), .sc (.int .u8 0), .sc (.int .u8 0), .sc (.int .u8 0), .sc (.int .u8 0), .sc (.int .u8 0), .sc (.int .u8 0), .sc (.int .u8 0), .sc (.int .u8 0), .sc (.int .u8 0), .sc (.int .u8 0)], .sc (.int .i64 0), .ro 99 true true [], .st 45 [.sc (.int .i64 0), .sc (.int .i64 0)]], .sc (.int .i64 (dCk (DV.mk x13_0 x14_0 x15_0 x16_0 x17_0 (JC 1 (RS.mk x11_0 x12_0)) x19_0 (JC 8 (J5 (Jc 1 (RS.mk x11_0 x12_0)))) (JC 8 (Jc 8 (J5 (Jc 1 (RS.mk x11_0 x12_0))))))))]) [] []) else k (Res.mk (.tup [.st 73 [.st 45 [.sc (.int .i64 x13_0), .sc (.int .i64 x14_0)], .sc (.int .i64 x15_0), .sc (.int .i64 x16_0), .ar 37 x17_0, .sc (.int .i64 (JC 1 (RS.mk x11_0 x12_0))), .ro 99 true true x19_0, .st 45 [.sc (.int .i64 (JC 8 (J5 (Jc 1 (RS.mk x11_0 x12_0))))), .sc (.int .i64 (JC 8 (Jc 8 (J5 (Jc 1 (RS.mk x11_0 x12_0))))))]], .sc (.int .i64 0)]) [] []) else none else bif (Jc 8 (Jc 8 (J5 (Jc 1 (RS.mk x11_0 x12_0))))).e != 0 then k (Res.mk (.tup [.st 73 [.st 45 [.sc (.int .i64 0), .sc (.int .i64 0)], .sc (.int .i64 0), .sc (.int .i64 0), .ar 37 [.sc (.int .u8 0), .sc (.int .u8 0), .sc (.int .u8 0), .sc (.int .u8 0), .sc (.int .u8 0), .sc (.int .u8 0), .sc (.int .u8 0), .sc (.int .u8 0), .sc (.int .u8 0), .sc (.int .u8 0), .sc (.int .u8 0), .sc (.int .u8 0), .sc (.int .u8 0), .sc (.int .u8 0), .sc (.int .u8 0), .sc (.int .u8 0), .sc (.int .u8 0), .sc (.int .u8 0), .sc (.int .u8 0), .sc (.int .u8 0), .sc (.int .u8 0), .sc (.int .u8 0), .sc (.int .u8 0), .sc (.int .u8 0), .sc (.int .u8 0), .sc (.int .u8 0), .sc (.int .u8 0), .sc (.int .u8 0), .sc (.int .u8 0), .sc (.int .u8 0), .sc (.int .u8 0), .sc (.int .u8 0)], .sc (.int .i64 0), .ro 99 true true [], .st 45 [.sc (.int .i64 0), .sc (.int .i64 0)]], .sc (.int .i64 (Jc 8 (Jc 8 (J5 (Jc 1 (RS.mk x11_0 x12_0))))).e)]) [] []) else k (Res.mk (.tup [.st 73 [.st 45 [.sc (.int .i64 x13_0), .sc (.int .i64 x14_0)], .sc (.int .i64 x15_0), .sc (.int .i64 x16_0), .ar 37 x17_0, .sc (.int .i64 (JC 1 (RS.mk x11_0 x12_0))), .ro 99 true true x19_0, .st 45 [.sc (.int .i64 (JC 8 (J5 (Jc 1 (RS.mk x11_0 x12_0))))), .sc (.int .i64 (JC 8 (Jc 8 (J5 (Jc 1 (RS.mk x11_0 x12_0))))))]], .sc (.int .i64 0)]) [] []) else none else none else none else none) f (0) (0) (0) (0) (0) ([.sc (.int .u8 0), .sc (.int .u8 0), .sc (.int .u8 0), .sc (.int .u8 0), .sc (.int .u8 0), .sc (.int .u8 0), .sc (.int .u8 0), .sc (.int .u8 0), .sc (.int .u8 0), .sc (.int .u8 0), .sc (.int .u8 0), .sc (.int .u8 0), .sc (.int .u8 0), .sc (.int .u8 0), .sc (.int .u8 0), .sc (.int .u8 0), .sc (.int .u8 0), .sc (.int .u8 0), .sc (.int .u8 0), .sc (.int .u8 0), .sc (.int .u8 0), .sc (.int .u8 0), .sc (.int .u8 0), .sc (.int .u8 0), .sc (.int .u8 0), .sc (.int .u8 0), .sc (.int .u8 0), .sc (.int .u8 0), .sc (.int .u8 0), .sc (.int .u8 0), .sc (.int .u8 0), .sc (.int .u8 0)]) (0) ([]) (0) (0) b_z b_z ((Jc 8 (Jc 8 (Jc 8 (Jc 8 (RS.mk b 0))))).b) ((Jc 8 (Jc 8 (Jc 8 (Jc 8 (RS.mk b 0))))).e) (JC 8 (RS.mk b 0)) (JC 8 (Jc 8 (RS.mk b 0))) (JC 8 (Jc 8 (Jc 8 (RS.mk b 0)))) (JC 8 (Jc 8 (Jc 8 (Jc 8 (RS.mk b 0))))) ([.sc (.int .u8 0), .sc (.int .u8 0), .sc (.int .u8 0), .sc (.int .u8 0), .sc (.int .u8 0), .sc (.int .u8 0), .sc (.int .u8 0), .sc (.int .u8 0), .sc (.int .u8 0), .sc (.int .u8 0), .sc (.int .u8 0), .sc (.int .u8 0), .sc (.int .u8 0), .sc (.int .u8 0), .sc (.int .u8 0), .sc (.int .u8 0), .sc (.int .u8 0), .sc (.int .u8 0), .sc (.int .u8 0), .sc (.int .u8 0), .sc (.int .u8 0), .sc (.int .u8 0), .sc (.int .u8 0), .sc (.int .u8 0), .sc (.int .u8 0), .sc (.int .u8 0), .sc (.int .u8 0), .sc (.int .u8 0), .sc (.int .u8 0), .sc (.int .u8 0), .sc (.int .u8 0), .sc (.int .u8 0)]) (0) ([]) (0) (0) else none else none else none else none else none
theorem JAw (f : Nat) (b_z : Bool) (b_f : Bool) (b : List PV) (k : Res → Option Res) : JN tau JlK Try.f103 (Try.f103.body.get!) (JiL (Vf f)) [.ro, .ro] 0 [.ro 5 b_z b_f b] [] k = JsZ f b_z b_f b k := by kernel_rfl
theorem Jxx (f : Nat) : Ji (Try.f103.body.get!) (JiL (Vf f)) = [.l GG WG JbR (Vf f)] := by kernel_rfl
theorem Jxy (f : Nat) : ∀ q ∈ Ji (Try.f103.body.get!) (JiL (Vf f)), q.Ok tau Try.prog 0 := by
  rw [Jxx f]; simp only [List.forall_mem_cons, List.not_mem_nil, false_implies, implies_true, and_true]; exact JsY f
theorem JqE : Try.prog.funcs[103]? = some Try.f103 := by kernel_rfl
theorem JqF : Try.f103.body = some (Try.f103.body.get!) := by kernel_rfl
theorem Jxz : Enters Try.prog 103 := enters_of JqE (by kernel_rfl) JqF


-- FN delta.Parse | ref8.Parse
theorem Js0 (t : ByteArray) : byB (Jp t) = true := by
  unfold byB Jp
  refine List.all_eq_true.2 fun p hp => ?_
  obtain ⟨x, hx, rfl⟩ := List.mem_map.1 hp
  have := x.toNat_lt
  rw [Bool.and_eq_true, Bool.and_eq_true]
  refine ⟨rfl, decide_eq_true ?_, decide_eq_true ?_⟩
  · exact Int.natCast_nonneg _
  · exact Int.ofNat_lt.2 this
noncomputable def d4 (b : List PV) : RS := Jc 8 (Jc 8 (Jc 8 (Jc 8 ⟨b, 0⟩)))
noncomputable def d5 (b : List PV) : RS := hashS (d4 b)
noncomputable def d7 (b : List PV) : RS := J5 (Jc 1 (d5 b))
noncomputable def d9 (b : List PV) : RS := Jc 8 (Jc 8 (d7 b))
noncomputable def dt (b : List PV) : List PV := Jp (JS (Jc 1 (d5 b)))
noncomputable def dv (b : List PV) : DV := ⟨JC 8 ⟨b, 0⟩, JC 8 (Jc 8 ⟨b, 0⟩), JC 8 (Jc 8 (Jc 8 ⟨b, 0⟩)), JC 8 (Jc 8 (Jc 8 (Jc 8 ⟨b, 0⟩))), pu .u8 (hashV (d4 b)), JC 1 (d5 b), opL (dt b), JC 8 (d7 b), JC 8 (Jc 8 (d7 b))⟩
noncomputable def dE0 (b : List PV) : Int := bif (d9 b).e == 0 then (bif decide ((d9 b).b.length > 0) then 9 else bif opE (dt b) == 0 then dCk (dv b) else opE (dt b)) else (d9 b).e
noncomputable def dE : List PV → Int := hid dE0
noncomputable def dN (b : List PV) : Nat → Int
  | 0 => (dv b).ad
  | 1 => (dv b).au
  | 2 => (dv b).id
  | 3 => (dv b).ve
  | 4 => (dv b).kd
  | 5 => (dv b).wd
  | _ => (dv b).wu
noncomputable def dF : Nat → List PV → Int := hid fun i b => bif dE0 b == 0 then dN b i else 0
noncomputable def dH : List PV → List Int := hid fun b => bif dE0 b == 0 then hashV (d4 b) else List.replicate 32 0
noncomputable def dO : List PV → List PV := hid fun b => bif dE0 b == 0 then opL (dt b) else []
theorem Jfm (b : List PV) : dE b = dE0 b := by rw [dE, hid_eq]
theorem JiM (i : Nat) (b : List PV) : dF i b = bif dE0 b == 0 then dN b i else 0 := by rw [dF, hid_eq]
theorem JlM (b : List PV) : dH b = bif dE0 b == 0 then hashV (d4 b) else List.replicate 32 0 := by rw [dH, hid_eq]
theorem JlN (b : List PV) : dO b = bif dE0 b == 0 then opL (dt b) else [] := by rw [dO, hid_eq]
def JiN (e : Int) : PV := .tup [.st 73 [.st 45 [.sc (.int .i64 0), .sc (.int .i64 0)], .sc (.int .i64 0), .sc (.int .i64 0), .ar 37 (pu .u8 (List.replicate 32 0)), .sc (.int .i64 0), .ro 99 true true [], .st 45 [.sc (.int .i64 0), .sc (.int .i64 0)]], .sc (.int .i64 e)]
noncomputable def dP (b : List PV) : PV := .tup [.st 73 [.st 45 [.sc (.int .i64 (dF 0 b)), .sc (.int .i64 (dF 1 b))], .sc (.int .i64 (dF 2 b)), .sc (.int .i64 (dF 3 b)), .ar 37 (pu .u8 (dH b)), .sc (.int .i64 (dF 4 b)), .ro 99 (dO b).isEmpty (dO b).isEmpty (dO b), .st 45 [.sc (.int .i64 (dF 5 b)), .sc (.int .i64 (dF 6 b))]], .sc (.int .i64 (dE b))]
theorem Jd0 {b : List PV} {e : Int} (h : dE0 b = e) (h0 : (e == 0) = false) : dP b = JiN e := by
  simp only [dP, JiN, JiM, JlM, JlN, Jfm, h, h0, cond_false, List.isEmpty_nil]
theorem JxA {b : List PV} (h : dE0 b = 0) : dP b = .tup [.st 73 [.st 45 [.sc (.int .i64 (JC 8 ⟨b, 0⟩)), .sc (.int .i64 (JC 8 (Jc 8 ⟨b, 0⟩)))], .sc (.int .i64 (JC 8 (Jc 8 (Jc 8 ⟨b, 0⟩)))), .sc (.int .i64 (JC 8 (Jc 8 (Jc 8 (Jc 8 ⟨b, 0⟩))))), .ar 37 (pu .u8 (hashV (d4 b))), .sc (.int .i64 (JC 1 (d5 b))), .ro 99 (opL (dt b)).isEmpty (opL (dt b)).isEmpty (opL (dt b)), .st 45 [.sc (.int .i64 (JC 8 (d7 b))), .sc (.int .i64 (JC 8 (Jc 8 (d7 b))))]], .sc (.int .i64 0)] := by
  simp only [dP, JiM, JlM, JlN, Jfm, h, beq_self_eq_true, cond_true, dN, dv]
theorem Joe {b : List PV} (h : byB b = true) : cOk (opL b) = true := by
  rw [JdU]
  cases VX b == 0 with
  | true => exact JiG (JlG h) _
  | false => exact ZF.2 ⟨rfl, Nat.zero_le _⟩
theorem JlO (f : Nat) (k0 : Int → Int → Int → Int → List PV → Int → List PV → Int → Int → Bool → Bool → List PV → Int → Int → Int → Int → Int → List PV → Int → List PV → Int → Int → Option Res) (z fl : Bool) (hz : (!z || fl) = true) (x1 x2 x3 x4 : Int) (x5 : List PV) (x6 : Int) (x7 : List PV) (x8 x9 y14 y15 y16 y17 y19 : Int) (y20 : List PV) (y21 y22 : Int) : ∀ (d i n : Nat) (s : RS) (L : List Int), i + d = 32 → d < n → byB s.b = true → L.length = 32 →
    Yb f k0 n (i : Int) x1 x2 x3 x4 x5 x6 x7 x8 x9 z fl s.b s.e y14 y15 y16 y17 (pu .u8 L) y19 y20 y21 y22 = k0 x1 x2 x3 x4 x5 x6 x7 x8 x9 z fl (Gw d s).b (Gw d s).e y14 y15 y16 y17 (pu .u8 (L.take i ++ Gx d s)) y19 y20 y21 y22
  | 0, i, n + 1, s, L, h, hn, hb, hL => by
      obtain rfl : i = 32 := by omega
      simp only [Yb, Zf, Gw, Gx, List.append_nil]
      rw [List.take_of_length_le (by omega)]
      exact Jx (by decide)
  | d + 1, i, n + 1, s, L, h, hn, hb, hL => by
      have g1 : ((i : Int)).toNat = i := by omega
      have w1 : IntKind.i64.wrap ((i : Int) + 1) = ((i + 1 : Nat) : Int) := by rw [wrap_i64 (by omega) (by omega)]; omega
      have hm : RS.mk s.b s.e = s := rfl
      simp only [Yb, Zf, g1, w1, hm, Wn]
      refine (Jb (by simp; omega)).trans ((Jb (by rw [hb, hz]; rfl)).trans ((Jb (by simp [zi]; omega)).trans ?_))
      have := JlO f k0 z fl hz x1 x2 x3 x4 x5 x6 x7 x8 x9 y14 y15 y16 y17 y19 y20 y21 y22 d (i + 1) n (Qg 1 s) (L.set i (IntKind.u8.wrap (JC 1 s))) (by omega) (by omega) (Xy hb 1) (by simpa using hL)
      rw [WT]
      refine Eq.trans this ?_
      have hset : (L.set i (IntKind.u8.wrap (JC 1 s))).take (i + 1) = L.take i ++ [IntKind.u8.wrap (JC 1 s)] := by
        rw [List.take_add_one, List.take_set_of_le (Nat.le_refl i), List.getElem?_set_self (by omega)]; rfl
      rw [hset, W2]
      simp only [Gw, Gx, List.append_assoc, List.cons_append, List.nil_append]
theorem Jof (z f : Bool) (b : List PV) (hz : slB z b = true) (hb : byB b = true) (k : Res → Option Res) :
    JsZ 40 z f b k = k ⟨dP b, [], []⟩ := by
  have hE : dE0 b = dE0 b := rfl
  conv at hE => rhs; unfold dE0
  have hzz : (!z || z) = true := by cases z <;> rfl
  have c1 := Qu (s := ⟨b, 0⟩) hb 8
  have c2 := Qu c1 8
  have c3 := Qu c2 8
  have c4 : byB (d4 b).b = true := Qu c3 8
  have c5 : byB (d5 b).b = true := by unfold d5; rw [hashS_eq]; exact Jh0 32 c4
  have c6 := Qu c5 1
  have c7 : byB (d7 b).b = true := Jh1 c6
  have c8 := Qu c7 8
  unfold JsZ
  refine (Jb hz).trans ((Jb (by rw [hb, hzz]; rfl)).trans ((Jb (by rw [c1, hzz]; rfl)).trans ((Jb (by rw [c2, hzz]; rfl)).trans ((Jb (by rw [c3, hzz]; rfl)).trans ?_))))
  refine (JlO 40 _ z z hzz _ _ _ _ _ _ _ _ _ _ _ _ _ _ _ _ _ 32 0 40 (d4 b) (List.replicate 32 0) (by omega) (by omega) c4 (by simp)).trans ?_
  have hr : Gw 32 (d4 b) = d5 b := by unfold d5; rw [hashS_eq]
  have hv : Gx 32 (d4 b) = hashV (d4 b) := by rw [hashV_eq]
  have hm : RS.mk (d5 b).b (d5 b).e = d5 b := rfl
  have h7 : J5 (Jc 1 (d5 b)) = d7 b := rfl
  have h9 : Jc 8 (Jc 8 (d7 b)) = d9 b := rfl
  have hsz := JjA c6
  have htk : List.take (JS (Jc 1 (d5 b))).size (dt b) = dt b := List.take_of_length_le (by unfold dt; rw [G6]; exact Nat.le_refl _)
  have hto : Jp (JS (Jc 1 (d5 b))) = dt b := rfl
  have hbt : byB (dt b) = true := Js0 _
  have hlt : (dt b).length ≤ 65535 := by unfold dt; rw [G6]; exact hsz
  have hsl : slB (Ent.vec false 5 false (dt b)).nil (dt b) = true := Q3.2 ⟨fun h => by simp [Ent.nil] at h, by omega⟩
  have hz9 : decide (zi (d9 b).b.length > 0) = decide ((d9 b).b.length > 0) := by apply decide_eq_decide.2; simp only [zi]; omega
  have hdv : DV.mk (JC 8 ⟨b, 0⟩) (JC 8 (Jc 8 ⟨b, 0⟩)) (JC 8 (Jc 8 (Jc 8 ⟨b, 0⟩))) (JC 8 (Jc 8 (Jc 8 (Jc 8 ⟨b, 0⟩)))) (pu .u8 (hashV (d4 b))) (JC 1 (d5 b)) (opL (dt b)) (JC 8 (d7 b)) (JC 8 (Jc 8 (d7 b))) = dv b := rfl
  simp only [hr, hv, hm, h7, h9, List.take_zero, List.nil_append, List.drop_zero, htk, hto, hz9, hdv, hsl, hbt, hzz, c5, c6, c7, c8, Joe hbt, Bool.true_and, Bool.and_true, cond_true]
  cases he : ((d9 b).e == 0) with
  | false =>
    rw [he, cond_false] at hE
    rw [Jd0 hE he]
    simp only [cond_false]
    exact Jb (by rw [bne, he]; rfl)
  | true =>
    rw [he, cond_true] at hE
    cases h9 : decide ((d9 b).b.length > 0) with
    | true =>
      rw [h9, cond_true] at hE
      rw [Jd0 hE (by decide)]
      rfl
    | false =>
      rw [h9, cond_false] at hE
      simp only [cond_true, cond_false]
      refine (Jb (by simp [Jj]; omega)).trans ?_
      cases ho : (opE (dt b) == 0) with
      | false =>
        rw [ho, cond_false] at hE
        try simp only [cond_false]
        rw [Jd0 hE ho]
        exact Jb (by rw [bne, ho]; rfl)
      | true =>
        rw [ho, cond_true] at hE
        try simp only [cond_true]
        cases hd : (dCk (dv b) == 0) with
        | false =>
          rw [Jd0 hE hd]
          exact Jb (by rw [bne, hd]; rfl)
        | true =>
          have hd' : dCk (dv b) = 0 := by simpa using hd
          rw [hd'] at hE
          rw [JxA hE]
          exact Jx (by rw [bne, hd]; rfl)
noncomputable def Jd1 : List PV → List Ent → (Res → Option Res) → Option Res
  | [.ro 5 z f b], [], k => bif slB z b && byB b then k ⟨dP b, [], []⟩ else none
  | _, _, _ => none
noncomputable def JqG : Sig := { own := [], run := Jd1 }
theorem Js1 : Jk tau Try.prog 103 JqG := Jk.mk' fun xs es k res hl hr => by
  change Jd1 xs es k = some res at hr
  unfold Jd1 at hr
  split at hr
  · rename_i z f b
    obtain ⟨hc, hr⟩ := JL hr
    rw [Bool.and_eq_true] at hc
    have hg := (Jof z f b hc.1 hc.2 k).trans hr
    exact Qp Js JiK Jt JqE JqF (JiL (Vf 40)) [.ro, .ro] 0 0 (Jxy 40) hl rfl ((JAw 40 z f b k).trans hg)
  · cases hr
noncomputable def F49 : Fns := JH 103 JqG (JH 102 Jfj (JH 80 JkT (F0)))
theorem Js2 : JA tau Try.prog F49 := (((JJ).add Jii Jnt).add JdT JiC).add Js1 Jxz
def Jog : An := (.seq .leaf (.seq .leaf (.seq (.seq .leaf (.cond (.seq .leaf .leaf) .leaf)) (.seq (.seq .leaf (.seq .leaf (.cond (.seq .leaf .leaf) .leaf))) (.seq .leaf .leaf)))))
noncomputable def g49 (f : Nat) (k0_z : Bool) (k0_f : Bool) (k0 : List PV) (k1_z : Bool) (k1_f : Bool) (k1 : List PV) (k2_z : Bool) (k2_f : Bool) (k2 : List PV) (s_Body_z : Bool) (s_Body_f : Bool) (s_Body : List PV) (s_Mac : List PV) (k : Res → Option Res) : Option Res := bif slB s_Body_z s_Body && byB s_Body then bif dE s_Body != 0 then k (Res.mk (.tup [.st 73 [.st 45 [.sc (.int .i64 0), .sc (.int .i64 0)], .sc (.int .i64 0), .sc (.int .i64 0), .ar 37 [.sc (.int .u8 0), .sc (.int .u8 0), .sc (.int .u8 0), .sc (.int .u8 0), .sc (.int .u8 0), .sc (.int .u8 0), .sc (.int .u8 0), .sc (.int .u8 0), .sc (.int .u8 0), .sc (.int .u8 0), .sc (.int .u8 0), .sc (.int .u8 0), .sc (.int .u8 0), .sc (.int .u8 0), .sc (.int .u8 0), .sc (.int .u8 0), .sc (.int .u8 0), .sc (.int .u8 0), .sc (.int .u8 0), .sc (.int .u8 0), .sc (.int .u8 0), .sc (.int .u8 0), .sc (.int .u8 0), .sc (.int .u8 0), .sc (.int .u8 0), .sc (.int .u8 0), .sc (.int .u8 0), .sc (.int .u8 0), .sc (.int .u8 0), .sc (.int .u8 0), .sc (.int .u8 0), .sc (.int .u8 0)], .sc (.int .i64 0), .ro 99 true true [], .st 45 [.sc (.int .i64 0), .sc (.int .i64 0)]], .sc (.int .i64 (dE s_Body))]) [] []) else bif !kIn (dF 0 s_Body) then k (Res.mk (.tup [.st 73 [.st 45 [.sc (.int .i64 0), .sc (.int .i64 0)], .sc (.int .i64 0), .sc (.int .i64 0), .ar 37 [.sc (.int .u8 0), .sc (.int .u8 0), .sc (.int .u8 0), .sc (.int .u8 0), .sc (.int .u8 0), .sc (.int .u8 0), .sc (.int .u8 0), .sc (.int .u8 0), .sc (.int .u8 0), .sc (.int .u8 0), .sc (.int .u8 0), .sc (.int .u8 0), .sc (.int .u8 0), .sc (.int .u8 0), .sc (.int .u8 0), .sc (.int .u8 0), .sc (.int .u8 0), .sc (.int .u8 0), .sc (.int .u8 0), .sc (.int .u8 0), .sc (.int .u8 0), .sc (.int .u8 0), .sc (.int .u8 0), .sc (.int .u8 0), .sc (.int .u8 0), .sc (.int .u8 0), .sc (.int .u8 0), .sc (.int .u8 0), .sc (.int .u8 0), .sc (.int .u8 0), .sc (.int .u8 0), .sc (.int .u8 0)], .sc (.int .i64 0), .ro 99 true true [], .st 45 [.sc (.int .i64 0), .sc (.int .i64 0)]], .sc (.int .i64 14)]) [] []) else bif Jd IntKind.u8 (Qv (K3.mk [.ro 5 k0_z k0_f k0, .ro 5 k1_z k1_f k1, .ro 5 k2_z k2_f k2] (dF 0 s_Body))) && decide ((Qv (K3.mk [.ro 5 k0_z k0_f k0, .ro 5 k1_z k1_f k1, .ro 5 k2_z k2_f k2] (dF 0 s_Body))).length ≤ 1000000000) && (Jd IntKind.u8 (Jo [.ro 5 s_Body_z s_Body_f s_Body]) && decide ((Jo [.ro 5 s_Body_z s_Body_f s_Body]).length ≤ 1000000000)) && true then bif decide ((pu IntKind.u8 (QQ (Jh (Qv (K3.mk [.ro 5 k0_z k0_f k0, .ro 5 k1_z k1_f k1, .ro 5 k2_z k2_f k2] (dF 0 s_Body)))) (Jh (Jo [.ro 5 s_Body_z s_Body_f s_Body])))).length = 32) && decide (s_Mac.length = 32) && Jd IntKind.u8 (pu IntKind.u8 (QQ (Jh (Qv (K3.mk [.ro 5 k0_z k0_f k0, .ro 5 k1_z k1_f k1, .ro 5 k2_z k2_f k2] (dF 0 s_Body)))) (Jh (Jo [.ro 5 s_Body_z s_Body_f s_Body])))) && Jd IntKind.u8 s_Mac && true then bif !J6 (pu IntKind.u8 (QQ (Jh (Qv (K3.mk [.ro 5 k0_z k0_f k0, .ro 5 k1_z k1_f k1, .ro 5 k2_z k2_f k2] (dF 0 s_Body)))) (Jh (Jo [.ro 5 s_Body_z s_Body_f s_Body])))) s_Mac then k (Res.mk (.tup [.st 73 [.st 45 [.sc (.int .i64 0), .sc (.int .i64 0)], .sc (.int .i64 0), .sc (.int .i64 0), .ar 37 [.sc (.int .u8 0), .sc (.int .u8 0), .sc (.int .u8 0), .sc (.int .u8 0), .sc (.int .u8 0), .sc (.int .u8 0), .sc (.int .u8 0), .sc (.int .u8 0), .sc (.int .u8 0), .sc (.int .u8 0), .sc (.int .u8 0), .sc (.int .u8 0), .sc (.int .u8 0), .sc (.int .u8 0), .sc (.int .u8 0), .sc (.int .u8 0), .sc (.int .u8 0), .sc (.int .u8 0), .sc (.int .u8 0), .sc (.int .u8 0), .sc (.int .u8 0), .sc (.int .u8 0), .sc (.int .u8 0), .sc (.int .u8 0), .sc (.int .u8 0), .sc (.int .u8 0), .sc (.int .u8 0), .sc (.int .u8 0), .sc (.int .u8 0), .sc (.int .u8 0), .sc (.int .u8 0), .sc (.int .u8 0)], .sc (.int .i64 0), .ro 99 true true [], .st 45 [.sc (.int .i64 0), .sc (.int .i64 0)]], .sc (.int .i64 14)]) [] []) else k (Res.mk (.tup [.st 73 [.st 45 [.sc (.int .i64 (dF 0 s_Body)), .sc (.int .i64 (dF 1 s_Body))], .sc (.int .i64 (dF 2 s_Body)), .sc (.int .i64 (dF 3 s_Body)), .ar 37 (pu IntKind.u8 (dH s_Body)), .sc (.int .i64 (dF 4 s_Body)), .ro 99 (dO s_Body).isEmpty (dO s_Body).isEmpty (dO s_Body), .st 45 [.sc (.int .i64 (dF 5 s_Body)), .sc (.int .i64 (dF 6 s_Body))]], .sc (.int .i64 0)]) [] []) else none else none else none
theorem e49 (f : Nat) (k0_z : Bool) (k0_f : Bool) (k0 : List PV) (k1_z : Bool) (k1_f : Bool) (k1 : List PV) (k2_z : Bool) (k2_f : Bool) (k2 : List PV) (s_Body_z : Bool) (s_Body_f : Bool) (s_Body : List PV) (s_Mac : List PV) (k : Res → Option Res) : JN tau F49 Try.f49 (Try.f49.body.get!) Jog [.ro, .ro] 0 [.st 31 [.ro 5 k0_z k0_f k0, .ro 5 k1_z k1_f k1, .ro 5 k2_z k2_f k2], .st 77 [.ro 5 s_Body_z s_Body_f s_Body, .ar 37 s_Mac]] [] k = g49 f k0_z k0_f k0 k1_z k1_f k1 k2_z k2_f k2 s_Body_z s_Body_f s_Body s_Mac k := by kernel_rfl
theorem JAx (f : Nat) : Ji (Try.f49.body.get!) Jog = [] := by kernel_rfl
theorem JAy (f : Nat) : ∀ q ∈ Ji (Try.f49.body.get!) Jog, q.Ok tau Try.prog 0 := by
  rw [JAx f]; intro q hq; cases hq
theorem JxB : Try.prog.funcs[49]? = some Try.f49 := by kernel_rfl
theorem JxC : Try.f49.body = some (Try.f49.body.get!) := by kernel_rfl
theorem JAz : Enters Try.prog 49 := enters_of JxB (by kernel_rfl) JxC
noncomputable def JlP : List PV → List Ent → (Res → Option Res) → Option Res
  | [.st 31 [.ro 5 k0_z k0_f k0, .ro 5 k1_z k1_f k1, .ro 5 k2_z k2_f k2], .st 77 [.ro 5 s_Body_z s_Body_f s_Body, .ar 37 s_Mac]], [], k => g49 0 k0_z k0_f k0 k1_z k1_f k1 k2_z k2_f k2 s_Body_z s_Body_f s_Body s_Mac k
  | _, _, _ => none
noncomputable def s49 : Sig := { own := [], run := JlP }
theorem JAA : Jk tau Try.prog 49 s49 := JV Js Js2 Jt JxB JxC Jog [.ro, .ro] 0 [] JlP (JAy 0) fun xs es k res hr => by
  unfold JlP at hr
  split at hr
  · exact ⟨rfl, 0, (e49 0 _ _ _ _ _ _ _ _ _ _ _ _ _  _).trans hr⟩
  · cases hr
noncomputable def JxD : Fns := F0
theorem Joh : JA tau Try.prog JxD := JJ
def JiO : An := (.seq .leaf (.seq (.seq .leaf (.cond (.seq .leaf .leaf) .leaf)) (.seq .leaf .leaf)))
noncomputable def JxE (f : Nat) (b_z : Bool) (b_f : Bool) (b : List PV) (k : Res → Option Res) : Option Res :=
  bif b_z then
    k (Res.mk (PV.ro 5 true true []) [] [])
  else bif Jj (0 + b.length) 1 && true then
    k (Res.mk (PV.ro 5 false false (List.take (0 + b.length) b)) [] [])
  else none
theorem JAB (f : Nat) (b_z : Bool) (b_f : Bool) (b : List PV) (k : Res → Option Res) : JN tau JxD Try.f113 (Try.f113.body.get!) JiO [.ro] 0 [.ro 5 b_z b_f b] [] k = JxE f b_z b_f b k := by kernel_rfl
theorem JxF (f : Nat) : Ji (Try.f113.body.get!) JiO = [] := by kernel_rfl
theorem JxG (f : Nat) : ∀ q ∈ Ji (Try.f113.body.get!) JiO, q.Ok tau Try.prog 0 := by
  rw [JxF f]; intro q hq; cases hq
theorem JqH : Try.prog.funcs[113]? = some Try.f113 := by kernel_rfl
theorem JqI : Try.f113.body = some (Try.f113.body.get!) := by kernel_rfl
theorem JxH : Enters Try.prog 113 := enters_of JqH (by kernel_rfl) JqI
noncomputable def Jg5 : List PV → List Ent → (Res → Option Res) → Option Res
  | [.ro 5 b_z b_f b], [], k => JxE 0 b_z b_f b k
  | _, _, _ => none
noncomputable def JxI : Sig := { own := [], run := Jg5 }
theorem JxJ : Jk tau Try.prog 113 JxI := JV Js Joh Jt JqH JqI JiO [.ro] 0 [] Jg5 (JxG 0) fun xs es k res hr => by
  unfold Jg5 at hr
  split at hr
  · exact ⟨rfl, 0, (JAB 0 _ _ _  _).trans hr⟩
  · cases hr
noncomputable def F55 : Fns := JH 113 JxI (JH 102 Jfj (JH 80 JkT (JH 58 JnY (JH 27 JrN (F0)))))
theorem Js3 : JA tau Try.prog F55 := (((((JJ).add JpC Jvt).add Jlz JsM).add Jii Jnt).add JdT JiC).add JxJ JxH
def Joi : An := (.seq .leaf (.seq .leaf (.seq .leaf (.seq .leaf (.seq .leaf (.seq .leaf (.seq .leaf (.seq .leaf .leaf))))))))
noncomputable def g55 (f : Nat) (k0_z : Bool) (k0_f : Bool) (k0 : List PV) (k1_z : Bool) (k1_f : Bool) (k1 : List PV) (k2_z : Bool) (k2_f : Bool) (k2 : List PV) (host : Int) (prev : List PV) (s_Body_z : Bool) (s_Body_f : Bool) (s_Body : List PV) (s_Mac : List PV) (at1 : Int) (o_z : Bool) (o_f : Bool) (o : List PV) (k : Res → Option Res) : Option Res := bif s_Body_z then bif Jj o.length 32 && true then bif eOk (EV.mk [] s_Mac at1 (List.take o.length o)) then bif Jd IntKind.u8 (Jo [.ro 5 false false (List.take 32 prev), .ro 5 false false (pu IntKind.u8 (Jg (EV.mk [] s_Mac at1 (List.take o.length o))))]) && decide ((Jo [.ro 5 false false (List.take 32 prev), .ro 5 false false (pu IntKind.u8 (Jg (EV.mk [] s_Mac at1 (List.take o.length o))))]).length ≤ 140737488355000) then bif Jd IntKind.u8 (Qv (K3.mk [.ro 5 k0_z k0_f k0, .ro 5 k1_z k1_f k1, .ro 5 k2_z k2_f k2] host)) && decide ((Qv (K3.mk [.ro 5 k0_z k0_f k0, .ro 5 k1_z k1_f k1, .ro 5 k2_z k2_f k2] host)).length ≤ 1000000000) && (Jd IntKind.u8 (Jo [.ro 5 false false (pu IntKind.u8 (Jg (EV.mk [] s_Mac at1 (List.take o.length o)))), .ro 5 false false (List.take 32 (pu IntKind.u8 (Ju (Jh (Jo [.ro 5 false false (List.take 32 prev), .ro 5 false false (pu IntKind.u8 (Jg (EV.mk [] s_Mac at1 (List.take o.length o))))])))))]) && decide ((Jo [.ro 5 false false (pu IntKind.u8 (Jg (EV.mk [] s_Mac at1 (List.take o.length o)))), .ro 5 false false (List.take 32 (pu IntKind.u8 (Ju (Jh (Jo [.ro 5 false false (List.take 32 prev), .ro 5 false false (pu IntKind.u8 (Jg (EV.mk [] s_Mac at1 (List.take o.length o))))])))))]).length ≤ 1000000000)) && true then k (Res.mk (.st 93 [.st 77 [.ro 5 true true [], .ar 37 s_Mac], .sc (.int .i64 at1), .ro 99 (Ent.vec true 99 o.isEmpty o).nil false (List.take o.length o), .ar 37 (pu IntKind.u8 (Ju (Jh (Jo [.ro 5 false false (List.take 32 prev), .ro 5 false false (pu IntKind.u8 (Jg (EV.mk [] s_Mac at1 (List.take o.length o))))])))), .ar 37 (pu IntKind.u8 (QQ (Jh (Qv (K3.mk [.ro 5 k0_z k0_f k0, .ro 5 k1_z k1_f k1, .ro 5 k2_z k2_f k2] host))) (Jh (Jo [.ro 5 false false (pu IntKind.u8 (Jg (EV.mk [] s_Mac at1 (List.take o.length o)))), .ro 5 false false (List.take 32 (pu IntKind.u8 (Ju (Jh (Jo [.ro 5 false false (List.take 32 prev), .ro 5 false false (pu IntKind.u8 (Jg (EV.mk [] s_Mac at1 (List.take o.length o))))])))))]))))]) [] []) else none else none else none else none else bif Jj (0 + s_Body.length) 1 && true then bif Jj o.length 32 && true then bif eOk (EV.mk (List.take (0 + s_Body.length) s_Body) s_Mac at1 (List.take o.length o)) then bif Jd IntKind.u8 (Jo [.ro 5 false false (List.take 32 prev), .ro 5 false false (pu IntKind.u8 (Jg (EV.mk (List.take (0 + s_Body.length) s_Body) s_Mac at1 (List.take o.length o))))]) && decide ((Jo [.ro 5 false false (List.take 32 prev), .ro 5 false false (pu IntKind.u8 (Jg (EV.mk (List.take (0 + s_Body.length) s_Body) s_Mac at1 (List.take o.length o))))]).length ≤ 140737488355000) then bif Jd IntKind.u8 (Qv (K3.mk [.ro 5 k0_z k0_f k0, .ro 5 k1_z k1_f k1, .ro 5 k2_z k2_f k2] host)) && decide ((Qv (K3.mk [.ro 5 k0_z k0_f k0, .ro 5 k1_z k1_f k1, .ro 5 k2_z k2_f k2] host)).length ≤ 1000000000) && (Jd IntKind.u8 (Jo [.ro 5 false false (pu IntKind.u8 (Jg (EV.mk (List.take (0 + s_Body.length) s_Body) s_Mac at1 (List.take o.length o)))), .ro 5 false false (List.take 32 (pu IntKind.u8 (Ju (Jh (Jo [.ro 5 false false (List.take 32 prev), .ro 5 false false (pu IntKind.u8 (Jg (EV.mk (List.take (0 + s_Body.length) s_Body) s_Mac at1 (List.take o.length o))))])))))]) && decide ((Jo [.ro 5 false false (pu IntKind.u8 (Jg (EV.mk (List.take (0 + s_Body.length) s_Body) s_Mac at1 (List.take o.length o)))), .ro 5 false false (List.take 32 (pu IntKind.u8 (Ju (Jh (Jo [.ro 5 false false (List.take 32 prev), .ro 5 false false (pu IntKind.u8 (Jg (EV.mk (List.take (0 + s_Body.length) s_Body) s_Mac at1 (List.take o.length o))))])))))]).length ≤ 1000000000)) && true then k (Res.mk (.st 93 [.st 77 [.ro 5 false false (List.take (0 + s_Body.length) s_Body), .ar 37 s_Mac], .sc (.int .i64 at1), .ro 99 (Ent.vec true 99 o.isEmpty o).nil false (List.take o.length o), .ar 37 (pu IntKind.u8 (Ju (Jh (Jo [.ro 5 false false (List.take 32 prev), .ro 5 false false (pu IntKind.u8 (Jg (EV.mk (List.take (0 + s_Body.length) s_Body) s_Mac at1 (List.take o.length o))))])))), .ar 37 (pu IntKind.u8 (QQ (Jh (Qv (K3.mk [.ro 5 k0_z k0_f k0, .ro 5 k1_z k1_f k1, .ro 5 k2_z k2_f k2] host))) (Jh (Jo [.ro 5 false false (pu IntKind.u8 (Jg (EV.mk (List.take (0 + s_Body.length) s_Body) s_Mac at1 (List.take o.length o)))), .ro 5 false false (List.take 32 (pu IntKind.u8 (Ju (Jh (Jo [.ro 5 false false (List.take 32 prev), .ro 5 false false (pu IntKind.u8 (Jg (EV.mk (List.take (0 + s_Body.length) s_Body) s_Mac at1 (List.take o.length o))))])))))]))))]) [] []) else none else none else none else none else none
theorem e55 (f : Nat) (k0_z : Bool) (k0_f : Bool) (k0 : List PV) (k1_z : Bool) (k1_f : Bool) (k1 : List PV) (k2_z : Bool) (k2_f : Bool) (k2 : List PV) (host : Int) (prev : List PV) (s_Body_z : Bool) (s_Body_f : Bool) (s_Body : List PV) (s_Mac : List PV) (at1 : Int) (o_z : Bool) (o_f : Bool) (o : List PV) (k : Res → Option Res) : JN tau F55 Try.f55 (Try.f55.body.get!) Joi [.ro] 0 [.st 31 [.ro 5 k0_z k0_f k0, .ro 5 k1_z k1_f k1, .ro 5 k2_z k2_f k2], .sc (.int .i64 host), .ar 37 prev, .st 77 [.ro 5 s_Body_z s_Body_f s_Body, .ar 37 s_Mac], .sc (.int .i64 at1), .ro 99 o_z o_f o] [] k = g55 f k0_z k0_f k0 k1_z k1_f k1 k2_z k2_f k2 host prev s_Body_z s_Body_f s_Body s_Mac at1 o_z o_f o k := by kernel_rfl
theorem JAC (f : Nat) : Ji (Try.f55.body.get!) Joi = [] := by kernel_rfl
theorem JAD (f : Nat) : ∀ q ∈ Ji (Try.f55.body.get!) Joi, q.Ok tau Try.prog 0 := by
  rw [JAC f]; intro q hq; cases hq
theorem JxK : Try.prog.funcs[55]? = some Try.f55 := by kernel_rfl
theorem JxL : Try.f55.body = some (Try.f55.body.get!) := by kernel_rfl
theorem JAE : Enters Try.prog 55 := enters_of JxK (by kernel_rfl) JxL
noncomputable def JlQ : List PV → List Ent → (Res → Option Res) → Option Res
  | [.st 31 [.ro 5 k0_z k0_f k0, .ro 5 k1_z k1_f k1, .ro 5 k2_z k2_f k2], .sc (.int .i64 host), .ar 37 prev, .st 77 [.ro 5 s_Body_z s_Body_f s_Body, .ar 37 s_Mac], .sc (.int .i64 at1), .ro 99 o_z o_f o], [], k => g55 0 k0_z k0_f k0 k1_z k1_f k1 k2_z k2_f k2 host prev s_Body_z s_Body_f s_Body s_Mac at1 o_z o_f o k
  | _, _, _ => none
noncomputable def s55 : Sig := { own := [], run := JlQ }
theorem JAF : Jk tau Try.prog 55 s55 := JV Js Js3 Jt JxK JxL Joi [.ro] 0 [] JlQ (JAD 0) fun xs es k res hr => by
  unfold JlQ at hr
  split at hr
  · exact ⟨rfl, 0, (e55 0 _ _ _ _ _ _ _ _ _ _ _ _ _ _ _ _ _ _ _  _).trans hr⟩
  · cases hr
noncomputable def F60 : Fns := JH 102 Jfj (JH 80 JkT (JH 58 JnY (F0)))
theorem Js4 : JA tau Try.prog F60 := (((JJ).add Jlz JsM).add Jii Jnt).add JdT JiC
def Joj : An := (.seq .leaf (.seq .leaf (.seq .leaf .leaf)))
noncomputable def g60 (f : Nat) (k0_z : Bool) (k0_f : Bool) (k0 : List PV) (k1_z : Bool) (k1_f : Bool) (k1 : List PV) (k2_z : Bool) (k2_f : Bool) (k2 : List PV) (host : Int) (e_S_Body_z : Bool) (e_S_Body_f : Bool) (e_S_Body : List PV) (e_S_Mac : List PV) (e_At : Int) (e_Op_z : Bool) (e_Op_f : Bool) (e_Op : List PV) (e_Hash : List PV) (e_Mac : List PV) (k : Res → Option Res) : Option Res := bif kIn host then bif eOk (EV.mk e_S_Body e_S_Mac e_At e_Op) then bif Jd IntKind.u8 (Qv (K3.mk [.ro 5 k0_z k0_f k0, .ro 5 k1_z k1_f k1, .ro 5 k2_z k2_f k2] host)) && decide ((Qv (K3.mk [.ro 5 k0_z k0_f k0, .ro 5 k1_z k1_f k1, .ro 5 k2_z k2_f k2] host)).length ≤ 1000000000) && (Jd IntKind.u8 (Jo [.ro 5 false false (pu IntKind.u8 (Jg (EV.mk e_S_Body e_S_Mac e_At e_Op))), .ro 5 false false (List.take 32 e_Hash)]) && decide ((Jo [.ro 5 false false (pu IntKind.u8 (Jg (EV.mk e_S_Body e_S_Mac e_At e_Op))), .ro 5 false false (List.take 32 e_Hash)]).length ≤ 1000000000)) && true then bif decide ((pu IntKind.u8 (QQ (Jh (Qv (K3.mk [.ro 5 k0_z k0_f k0, .ro 5 k1_z k1_f k1, .ro 5 k2_z k2_f k2] host))) (Jh (Jo [.ro 5 false false (pu IntKind.u8 (Jg (EV.mk e_S_Body e_S_Mac e_At e_Op))), .ro 5 false false (List.take 32 e_Hash)])))).length = 32) && decide (e_Mac.length = 32) && Jd IntKind.u8 (pu IntKind.u8 (QQ (Jh (Qv (K3.mk [.ro 5 k0_z k0_f k0, .ro 5 k1_z k1_f k1, .ro 5 k2_z k2_f k2] host))) (Jh (Jo [.ro 5 false false (pu IntKind.u8 (Jg (EV.mk e_S_Body e_S_Mac e_At e_Op))), .ro 5 false false (List.take 32 e_Hash)])))) && Jd IntKind.u8 e_Mac && true then k (Res.mk (.sc (.bool (J6 (pu IntKind.u8 (QQ (Jh (Qv (K3.mk [.ro 5 k0_z k0_f k0, .ro 5 k1_z k1_f k1, .ro 5 k2_z k2_f k2] host))) (Jh (Jo [.ro 5 false false (pu IntKind.u8 (Jg (EV.mk e_S_Body e_S_Mac e_At e_Op))), .ro 5 false false (List.take 32 e_Hash)])))) e_Mac))) [] []) else none else none else none else k (Res.mk (.sc (.bool false)) [] [])
theorem e60 (f : Nat) (k0_z : Bool) (k0_f : Bool) (k0 : List PV) (k1_z : Bool) (k1_f : Bool) (k1 : List PV) (k2_z : Bool) (k2_f : Bool) (k2 : List PV) (host : Int) (e_S_Body_z : Bool) (e_S_Body_f : Bool) (e_S_Body : List PV) (e_S_Mac : List PV) (e_At : Int) (e_Op_z : Bool) (e_Op_f : Bool) (e_Op : List PV) (e_Hash : List PV) (e_Mac : List PV) (k : Res → Option Res) : JN tau F60 Try.f60 (Try.f60.body.get!) Joj [.ro] 0 [.st 31 [.ro 5 k0_z k0_f k0, .ro 5 k1_z k1_f k1, .ro 5 k2_z k2_f k2], .sc (.int .i64 host), .st 93 [.st 77 [.ro 5 e_S_Body_z e_S_Body_f e_S_Body, .ar 37 e_S_Mac], .sc (.int .i64 e_At), .ro 99 e_Op_z e_Op_f e_Op, .ar 37 e_Hash, .ar 37 e_Mac]] [] k = g60 f k0_z k0_f k0 k1_z k1_f k1 k2_z k2_f k2 host e_S_Body_z e_S_Body_f e_S_Body e_S_Mac e_At e_Op_z e_Op_f e_Op e_Hash e_Mac k := by kernel_rfl
theorem JAG (f : Nat) : Ji (Try.f60.body.get!) Joj = [] := by kernel_rfl
theorem JAH (f : Nat) : ∀ q ∈ Ji (Try.f60.body.get!) Joj, q.Ok tau Try.prog 0 := by
  rw [JAG f]; intro q hq; cases hq
theorem JxM : Try.prog.funcs[60]? = some Try.f60 := by kernel_rfl
theorem JxN : Try.f60.body = some (Try.f60.body.get!) := by kernel_rfl
theorem JxO : Enters Try.prog 60 := enters_of JxM (by kernel_rfl) JxN
noncomputable def JlR : List PV → List Ent → (Res → Option Res) → Option Res
  | [.st 31 [.ro 5 k0_z k0_f k0, .ro 5 k1_z k1_f k1, .ro 5 k2_z k2_f k2], .sc (.int .i64 host), .st 93 [.st 77 [.ro 5 e_S_Body_z e_S_Body_f e_S_Body, .ar 37 e_S_Mac], .sc (.int .i64 e_At), .ro 99 e_Op_z e_Op_f e_Op, .ar 37 e_Hash, .ar 37 e_Mac]], [], k => g60 0 k0_z k0_f k0 k1_z k1_f k1 k2_z k2_f k2 host e_S_Body_z e_S_Body_f e_S_Body e_S_Mac e_At e_Op_z e_Op_f e_Op e_Hash e_Mac k
  | _, _, _ => none
noncomputable def s60 : Sig := { own := [], run := JlR }
theorem JAI : Jk tau Try.prog 60 s60 := JV Js Js4 Jt JxM JxN Joj [.ro] 0 [] JlR (JAH 0) fun xs es k res hr => by
  unfold JlR at hr
  split at hr
  · exact ⟨rfl, 0, (e60 0 _ _ _ _ _ _ _ _ _ _ _ _ _ _ _ _ _ _ _ _  _).trans hr⟩
  · cases hr
noncomputable def F72 : Fns := F0
theorem Js5 : JA tau Try.prog F72 := JJ
def Jok : An := (.seq .leaf (.seq .leaf .leaf))
noncomputable def g72 (f : Nat) (k : Res → Option Res) : Option Res := k (Res.mk (.ar 118 [.sc (.int .u32 1116352408), .sc (.int .u32 1899447441), .sc (.int .u32 3049323471), .sc (.int .u32 3921009573), .sc (.int .u32 961987163), .sc (.int .u32 1508970993), .sc (.int .u32 2453635748), .sc (.int .u32 2870763221), .sc (.int .u32 3624381080), .sc (.int .u32 310598401), .sc (.int .u32 607225278), .sc (.int .u32 1426881987), .sc (.int .u32 1925078388), .sc (.int .u32 2162078206), .sc (.int .u32 2614888103), .sc (.int .u32 3248222580), .sc (.int .u32 3835390401), .sc (.int .u32 4022224774), .sc (.int .u32 264347078), .sc (.int .u32 604807628), .sc (.int .u32 770255983), .sc (.int .u32 1249150122), .sc (.int .u32 1555081692), .sc (.int .u32 1996064986), .sc (.int .u32 2554220882), .sc (.int .u32 2821834349), .sc (.int .u32 2952996808), .sc (.int .u32 3210313671), .sc (.int .u32 3336571891), .sc (.int .u32 3584528711), .sc (.int .u32 113926993), .sc (.int .u32 338241895), .sc (.int .u32 666307205), .sc (.int .u32 773529912), .sc (.int .u32 1294757372), .sc (.int .u32 1396182291), .sc (.int .u32 1695183700), .sc (.int .u32 1986661051), .sc (.int .u32 2177026350), .sc (.int .u32 2456956037), .sc (.int .u32 2730485921), .sc (.int .u32 2820302411), .sc (.int .u32 3259730800), .sc (.int .u32 3345764771), .sc (.int .u32 3516065817), .sc (.int .u32 3600352804), .sc (.int .u32 4094571909), .sc (.int .u32 275423344), .sc (.int .u32 430227734), .sc (.int .u32 506948616), .sc (.int .u32 659060556), .sc (.int .u32 883997877), .sc (.int .u32 958139571), .sc (.int .u32 1322822218), .sc (.int .u32 1537002063), .sc (.int .u32 1747873779), .sc (.int .u32 1955562222), .sc (.int .u32 2024104815), .sc (.int .u32 2227730452), .sc (.int .u32 2361852424), .sc (.int .u32 2428436474), .sc (.int .u32 2756734187), .sc (.int .u32 3204031479), .sc (.int .u32 3329325298)]) [] [])
theorem e72 (f : Nat) (k : Res → Option Res) : JN tau F72 Try.f72 (Try.f72.body.get!) Jok [.ro] 0 [] [] k = g72 f k := by kernel_rfl
theorem JAJ (f : Nat) : Ji (Try.f72.body.get!) Jok = [] := by kernel_rfl
theorem JAK (f : Nat) : ∀ q ∈ Ji (Try.f72.body.get!) Jok, q.Ok tau Try.prog 0 := by
  rw [JAJ f]; intro q hq; cases hq
theorem JxP : Try.prog.funcs[72]? = some Try.f72 := by kernel_rfl
theorem JxQ : Try.f72.body = some (Try.f72.body.get!) := by kernel_rfl
theorem JAL : Enters Try.prog 72 := enters_of JxP (by kernel_rfl) JxQ
noncomputable def JlS : List PV → List Ent → (Res → Option Res) → Option Res
  | [], [], k => g72 0  k
  | _, _, _ => none
noncomputable def s72 : Sig := { own := [], run := JlS }
theorem JAM : Jk tau Try.prog 72 s72 := JV Js Js5 Jt JxP JxQ Jok [.ro] 0 [] JlS (JAK 0) fun xs es k res hr => by
  unfold JlS at hr
  split at hr
  · exact ⟨rfl, 0, (e72 0  _).trans hr⟩
  · cases hr
end Go.Proofs.Ytcklhipdldpkhaa.Rx
