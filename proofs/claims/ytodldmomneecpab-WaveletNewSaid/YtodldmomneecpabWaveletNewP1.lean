/- What the functions of this law compute, and their plain laws. Conditions: none. -/
import Derived.Test.YtodldmomneecpabProg
import Derived.Test.YtodldmomneecpabZ4
/- The types of this program: what the evaluator is told of them. Printed by a program of the worker's own. -/
namespace Go.Proofs.Ytodldmomneecpab.Rx
open Go
set_option linter.unusedVariables false
set_option maxRecDepth 100000
def tys : List TypeId := [1, 2, 3, 4, 5, 9, 12, 21, 22, 23, 24, 25, 26, 27, 28, 29, 30, 31, 32, 33, 34, 35, 36, 37, 38, 39, 41, 42, 43, 44, 45, 46, 47, 48, 49, 50, 51, 52, 53, 54, 55, 56, 57, 59, 60, 61, 62, 63, 64, 65, 66, 68, 69, 70, 72, 74, 75, 76, 77, 78, 79, 80, 81, 82, 83, 84, 85, 86, 87, 88, 89, 90, 91, 92, 93, 94, 95, 96, 97, 98, 99, 100, 101, 102, 103, 104, 105, 106, 107, 108, 109, 110, 111, 112, 113, 114, 115, 117, 118, 119, 120, 121, 123, 124, 126, 127, 129, 130, 131, 132, 133, 134, 135, 136, 137, 138, 139, 140, 141, 142, 143, 145, 146, 148, 149, 150, 151, 152, 153, 154, 155, 156, 157, 158, 159, 160, 161, 162, 163, 164, 165, 166, 167, 168, 169, 170, 171, 172, 173, 174, 175, 176, 177, 178, 179, 180, 181, 190]
def zerT : TypeId → Option PV := fun t =>
  bif t == 1 then some (.sc .nilFunc) else
  bif t == 2 then some (.sc (.int .i64 0)) else
  bif t == 3 then some (.sc (.int .i64 0)) else
  bif t == 4 then some (.sc (.bool false)) else
  bif t == 5 then some (.sc (.int .u8 0)) else
  bif t == 9 then some (.sc (.string ByteArray.empty)) else
  bif t == 12 then some (.sc (.int .u64 0)) else
  bif t == 21 then some (.sc (.int .i32 0)) else
  bif t == 22 then some (.st 22 [.sc (.int .i64 0), .sc (.int .i64 0)]) else
  bif t == 23 then some (.st 23 [.sc (.int .i64 0), .sc (.int .i64 0)]) else
  bif t == 24 then some (.sc .nilFunc) else
  bif t == 25 then some (.st 25 [.sc (.int .i64 0), .sc (.int .i64 0)]) else
  bif t == 26 then some (.st 26 [.sc (.int .i64 0), .sc (.int .i64 0)]) else
  bif t == 27 then some (.ro 23 true true []) else
  bif t == 28 then some (.ar 28 (List.replicate 32 (.sc (.int .u8 0)))) else
  bif t == 29 then some (.ar 29 (List.replicate 32 (.sc (.int .u8 0)))) else
  bif t == 30 then some (.st 30 [.st 26 [.sc (.int .i64 0), .sc (.int .i64 0)], .sc (.string ByteArray.empty), .ro 23 true true [], .sc (.int .i64 0), .ar 29 (List.replicate 32 (.sc (.int .u8 0)))]) else
  bif t == 31 then some (.st 31 [.st 26 [.sc (.int .i64 0), .sc (.int .i64 0)], .sc (.string ByteArray.empty), .ro 23 true true [], .sc (.int .i64 0), .ar 29 (List.replicate 32 (.sc (.int .u8 0)))]) else
  bif t == 32 then some (.ro 92 true true []) else
  bif t == 33 then some (.ro 92 true true []) else
  bif t == 34 then some (.st 34 [.st 23 [.sc (.int .i64 0), .sc (.int .i64 0)], .sc (.int .i64 0), .sc (.int .i64 0), .ar 29 (List.replicate 32 (.sc (.int .u8 0))), .sc (.int .i64 0), .ro 92 true true [], .st 23 [.sc (.int .i64 0), .sc (.int .i64 0)]]) else
  bif t == 35 then some (.st 35 [.st 23 [.sc (.int .i64 0), .sc (.int .i64 0)], .sc (.int .i64 0), .sc (.int .i64 0), .ar 29 (List.replicate 32 (.sc (.int .u8 0))), .sc (.int .i64 0), .ro 92 true true [], .st 23 [.sc (.int .i64 0), .sc (.int .i64 0)]]) else
  bif t == 36 then some (.st 36 [.st 23 [.sc (.int .i64 0), .sc (.int .i64 0)], .st 31 [.st 26 [.sc (.int .i64 0), .sc (.int .i64 0)], .sc (.string ByteArray.empty), .ro 23 true true [], .sc (.int .i64 0), .ar 29 (List.replicate 32 (.sc (.int .u8 0)))], .sc (.string ByteArray.empty), .sc (.bool false), .st 35 [.st 23 [.sc (.int .i64 0), .sc (.int .i64 0)], .sc (.int .i64 0), .sc (.int .i64 0), .ar 29 (List.replicate 32 (.sc (.int .u8 0))), .sc (.int .i64 0), .ro 92 true true [], .st 23 [.sc (.int .i64 0), .sc (.int .i64 0)]], .ro 92 true true [], .sc (.bool false), .ro 92 true true [], .sc (.int .i64 0)]) else
  bif t == 37 then some (.st 37 [.st 23 [.sc (.int .i64 0), .sc (.int .i64 0)], .st 31 [.st 26 [.sc (.int .i64 0), .sc (.int .i64 0)], .sc (.string ByteArray.empty), .ro 23 true true [], .sc (.int .i64 0), .ar 29 (List.replicate 32 (.sc (.int .u8 0)))], .sc (.string ByteArray.empty), .sc (.bool false), .st 35 [.st 23 [.sc (.int .i64 0), .sc (.int .i64 0)], .sc (.int .i64 0), .sc (.int .i64 0), .ar 29 (List.replicate 32 (.sc (.int .u8 0))), .sc (.int .i64 0), .ro 92 true true [], .st 23 [.sc (.int .i64 0), .sc (.int .i64 0)]], .ro 92 true true [], .sc (.bool false), .ro 92 true true [], .sc (.int .i64 0)]) else
  bif t == 38 then some (.sc .nilFunc) else
  bif t == 39 then some (.sc (.int .i64 0)) else
  bif t == 41 then some (.sc .nilFunc) else
  bif t == 42 then some (.sc .nilFunc) else
  bif t == 43 then some (.st 43 [.st 26 [.sc (.int .i64 0), .sc (.int .i64 0)], .sc (.string ByteArray.empty), .ro 23 true true [], .sc (.int .i64 0), .ar 29 (List.replicate 32 (.sc (.int .u8 0)))]) else
  bif t == 44 then some (.st 44 [.st 23 [.sc (.int .i64 0), .sc (.int .i64 0)], .st 43 [.st 26 [.sc (.int .i64 0), .sc (.int .i64 0)], .sc (.string ByteArray.empty), .ro 23 true true [], .sc (.int .i64 0), .ar 29 (List.replicate 32 (.sc (.int .u8 0)))], .sc (.string ByteArray.empty), .sc (.bool false), .st 35 [.st 23 [.sc (.int .i64 0), .sc (.int .i64 0)], .sc (.int .i64 0), .sc (.int .i64 0), .ar 29 (List.replicate 32 (.sc (.int .u8 0))), .sc (.int .i64 0), .ro 92 true true [], .st 23 [.sc (.int .i64 0), .sc (.int .i64 0)]], .ro 92 true true [], .sc (.bool false), .ro 92 true true [], .sc (.int .i64 0)]) else
  bif t == 45 then some (.st 45 [.st 23 [.sc (.int .i64 0), .sc (.int .i64 0)], .st 43 [.st 26 [.sc (.int .i64 0), .sc (.int .i64 0)], .sc (.string ByteArray.empty), .ro 23 true true [], .sc (.int .i64 0), .ar 29 (List.replicate 32 (.sc (.int .u8 0)))], .sc (.string ByteArray.empty), .sc (.bool false), .st 35 [.st 23 [.sc (.int .i64 0), .sc (.int .i64 0)], .sc (.int .i64 0), .sc (.int .i64 0), .ar 29 (List.replicate 32 (.sc (.int .u8 0))), .sc (.int .i64 0), .ro 92 true true [], .st 23 [.sc (.int .i64 0), .sc (.int .i64 0)]], .ro 92 true true [], .sc (.bool false), .ro 92 true true [], .sc (.int .i64 0)]) else
  bif t == 46 then some (.sc .nilFunc) else
  bif t == 47 then some (.sc .nilFunc) else
  bif t == 48 then some (.sc .nilFunc) else
  bif t == 49 then some (.sc .nilFunc) else
  bif t == 50 then some (.ro 5 true true []) else
  bif t == 51 then some (.sc .nilFunc) else
  bif t == 52 then some (.sc .nilFunc) else
  bif t == 53 then some (.sc .nilFunc) else
  bif t == 54 then some (.ro 114 true true []) else
  bif t == 55 then some (.sc .nilFunc) else
  bif t == 56 then some (.ro 112 true true []) else
  bif t == 57 then some (.ro 43 true true []) else
  bif t == 59 then some (.sc .nilFunc) else
  bif t == 60 then some (.st 60 (List.replicate 3 (.ro 5 true true []))) else
  bif t == 61 then some (.st 61 (List.replicate 3 (.ro 5 true true []))) else
  bif t == 62 then some (.sc .nilFunc) else
  bif t == 63 then some (.sc .nilFunc) else
  bif t == 64 then some (.sc .nilFunc) else
  bif t == 65 then some (.sc .nilFunc) else
  bif t == 66 then some (.ro 70 true true []) else
  bif t == 68 then some (.sc .nilFunc) else
  bif t == 69 then some (.sc .nilFunc) else
  bif t == 70 then some (.ro 3 true true []) else
  bif t == 72 then some (.sc .nilFunc) else
  bif t == 74 then some (.sc .nilFunc) else
  bif t == 75 then some (.sc .nilFunc) else
  bif t == 76 then some (.sc .nilFunc) else
  bif t == 77 then some (.sc .nilFunc) else
  bif t == 78 then some (.sc .nilFunc) else
  bif t == 79 then some (.sc .nilFunc) else
  bif t == 80 then some (.sc .nilFunc) else
  bif t == 81 then some (.st 81 [.ro 43 true true [], .ro 112 true true []]) else
  bif t == 82 then some (.st 82 [.ro 43 true true [], .ro 112 true true []]) else
  bif t == 83 then some (.sc .nilFunc) else
  bif t == 84 then some (.sc .nilFunc) else
  bif t == 85 then some (.sc (.pointer none)) else
  bif t == 86 then some (.sc .nilFunc) else
  bif t == 87 then some (.st 87 [.st 37 [.st 23 [.sc (.int .i64 0), .sc (.int .i64 0)], .st 31 [.st 26 [.sc (.int .i64 0), .sc (.int .i64 0)], .sc (.string ByteArray.empty), .ro 23 true true [], .sc (.int .i64 0), .ar 29 (List.replicate 32 (.sc (.int .u8 0)))], .sc (.string ByteArray.empty), .sc (.bool false), .st 35 [.st 23 [.sc (.int .i64 0), .sc (.int .i64 0)], .sc (.int .i64 0), .sc (.int .i64 0), .ar 29 (List.replicate 32 (.sc (.int .u8 0))), .sc (.int .i64 0), .ro 92 true true [], .st 23 [.sc (.int .i64 0), .sc (.int .i64 0)]], .ro 92 true true [], .sc (.bool false), .ro 92 true true [], .sc (.int .i64 0)]]) else
  bif t == 88 then some (.st 88 [.st 37 [.st 23 [.sc (.int .i64 0), .sc (.int .i64 0)], .st 31 [.st 26 [.sc (.int .i64 0), .sc (.int .i64 0)], .sc (.string ByteArray.empty), .ro 23 true true [], .sc (.int .i64 0), .ar 29 (List.replicate 32 (.sc (.int .u8 0)))], .sc (.string ByteArray.empty), .sc (.bool false), .st 35 [.st 23 [.sc (.int .i64 0), .sc (.int .i64 0)], .sc (.int .i64 0), .sc (.int .i64 0), .ar 29 (List.replicate 32 (.sc (.int .u8 0))), .sc (.int .i64 0), .ro 92 true true [], .st 23 [.sc (.int .i64 0), .sc (.int .i64 0)]], .ro 92 true true [], .sc (.bool false), .ro 92 true true [], .sc (.int .i64 0)]]) else
  bif t == 89 then some (.sc .nilFunc) else
  bif t == 90 then some (.sc .nilFunc) else
  bif t == 91 then some (.st 91 [.sc (.int .i64 0), .sc (.int .i64 0), .sc (.string ByteArray.empty)]) else
  bif t == 92 then some (.st 92 [.sc (.int .i64 0), .sc (.int .i64 0), .sc (.string ByteArray.empty)]) else
  bif t == 93 then some (.sc .nilFunc) else
  bif t == 94 then some (.sc .nilFunc) else
  bif t == 95 then some (.sc .nilFunc) else
  bif t == 96 then some (.sc .nilFunc) else
  bif t == 97 then some (.sc (.complex .f64 0 0)) else
  bif t == 98 then some (.sc (.float .f64 0)) else
  bif t == 99 then some (.ro 97 true true []) else
  bif t == 100 then some (.sc .nilFunc) else
  bif t == 101 then some (.sc (.int .u64 0)) else
  bif t == 102 then some (.sc (.int .u64 0)) else
  bif t == 103 then some (.sc (.int .u32 0)) else
  bif t == 104 then some (.ar 104 (List.replicate 64 (.sc (.int .u32 0)))) else
  bif t == 105 then some (.sc .nilFunc) else
  bif t == 106 then some (.ar 106 (List.replicate 8 (.sc (.int .u32 0)))) else
  bif t == 107 then some (.sc .nilFunc) else
  bif t == 108 then some (.sc .nilFunc) else
  bif t == 109 then some (.st 109 [.ro 5 true true [], .ar 29 (List.replicate 32 (.sc (.int .u8 0)))]) else
  bif t == 110 then some (.st 110 [.ro 5 true true [], .ar 29 (List.replicate 32 (.sc (.int .u8 0)))]) else
  bif t == 111 then some (.st 111 [.st 110 [.ro 5 true true [], .ar 29 (List.replicate 32 (.sc (.int .u8 0)))], .sc (.int .i64 0), .ro 92 true true [], .ar 29 (List.replicate 32 (.sc (.int .u8 0))), .ar 29 (List.replicate 32 (.sc (.int .u8 0)))]) else
  bif t == 112 then some (.st 112 [.st 110 [.ro 5 true true [], .ar 29 (List.replicate 32 (.sc (.int .u8 0)))], .sc (.int .i64 0), .ro 92 true true [], .ar 29 (List.replicate 32 (.sc (.int .u8 0))), .ar 29 (List.replicate 32 (.sc (.int .u8 0)))]) else
  bif t == 113 then some (.st 113 [.sc (.int .i64 0), .sc (.int .i64 0), .sc (.int .i64 0), .ro 3 true true []]) else
  bif t == 114 then some (.st 114 [.sc (.int .i64 0), .sc (.int .i64 0), .sc (.int .i64 0), .ro 3 true true []]) else
  bif t == 115 then some (.sc .nilFunc) else
  bif t == 117 then some (.sc .nilFunc) else
  bif t == 118 then some (.sc .nilFunc) else
  bif t == 119 then some (.ro 33 true true []) else
  bif t == 120 then some (.sc .nilFunc) else
  bif t == 121 then some (.sc .nilFunc) else
  bif t == 123 then some (.sc .nilFunc) else
  bif t == 124 then some (.sc .nilFunc) else
  bif t == 126 then some (.sc .nilFunc) else
  bif t == 127 then some (.sc .nilFunc) else
  bif t == 129 then some (.sc .nilFunc) else
  bif t == 130 then some (.sc .nilFunc) else
  bif t == 131 then some (.sc .nilFunc) else
  bif t == 132 then some (.sc (.pointer none)) else
  bif t == 133 then some (.sc .nilFunc) else
  bif t == 134 then some (.sc .nilFunc) else
  bif t == 135 then some (.sc .nilFunc) else
  bif t == 136 then some (.ro 50 true true []) else
  bif t == 137 then some (.ar 137 (List.replicate 8 (.sc (.int .u32 0)))) else
  bif t == 138 then some (.sc .nilFunc) else
  bif t == 139 then some (.sc .nilFunc) else
  bif t == 140 then some (.sc .nilFunc) else
  bif t == 141 then some (.sc .nilFunc) else
  bif t == 142 then some (.sc .nilFunc) else
  bif t == 143 then some (.sc .nilFunc) else
  bif t == 145 then some (.sc .nilFunc) else
  bif t == 146 then some (.sc .nilFunc) else
  bif t == 148 then some (.sc .nilFunc) else
  bif t == 149 then some (.sc .nilFunc) else
  bif t == 150 then some (.sc .nilFunc) else
  bif t == 151 then some (.sc .nilFunc) else
  bif t == 152 then some (.st 152 [.sc (.string ByteArray.empty), .sc (.int .i64 0)]) else
  bif t == 153 then some (.st 153 [.sc (.string ByteArray.empty), .sc (.int .i64 0)]) else
  bif t == 154 then some (.sc .nilFunc) else
  bif t == 155 then some (.sc (.pointer none)) else
  bif t == 156 then some (.st 156 [.ro 92 true true [], .sc (.complex .f64 0 0)]) else
  bif t == 157 then some (.st 157 [.ro 92 true true [], .sc (.complex .f64 0 0)]) else
  bif t == 158 then some (.sc .nilFunc) else
  bif t == 159 then some (.sc .nilFunc) else
  bif t == 160 then some (.sc .nilFunc) else
  bif t == 161 then some (.sc .nilFunc) else
  bif t == 162 then some (.sc .nilFunc) else
  bif t == 163 then some (.sc .nilFunc) else
  bif t == 164 then some (.sc .nilFunc) else
  bif t == 165 then some (.sc .nilFunc) else
  bif t == 166 then some (.sc .nilFunc) else
  bif t == 167 then some (.sc (.pointer none)) else
  bif t == 168 then some (.sc .nilFunc) else
  bif t == 169 then some (.sc .nilFunc) else
  bif t == 170 then some (.sc .nilFunc) else
  bif t == 171 then some (.sc .nilFunc) else
  bif t == 172 then some (.sc .nilFunc) else
  bif t == 173 then some (.sc .nilFunc) else
  bif t == 174 then some (.sc .nilFunc) else
  bif t == 175 then some (.sc .nilFunc) else
  bif t == 176 then some (.sc .nilFunc) else
  bif t == 177 then some (.sc .nilFunc) else
  bif t == 178 then some (.st 178 [.ro 5 true true [], .sc (.int .i64 0), .sc (.int .i64 0)]) else
  bif t == 179 then some (.st 179 [.ro 5 true true [], .sc (.int .i64 0), .sc (.int .i64 0)]) else
  bif t == 180 then some (.sc .nilFunc) else
  bif t == 181 then some (.sc .nilFunc) else
  bif t == 190 then some (.sc (.pointer none)) else
  none
noncomputable def tau : Tab := tabOf Try.prog tys zerT
theorem tabOk : TabOk tau Try.prog := tabOk_of (by kernel_rfl)
theorem mixed : Try.prog.follows .mixedOrders = true := by kernel_rfl
def F0 : Fns := fun _ => none
theorem F0_ok : FnsOk tau Try.prog F0 := fun g sg h => by cases h
end Go.Proofs.Ytodldmomneecpab.Rx

/- What slices.Clone[[]byte,byte] computes. Own work, printed by a program of the worker's own. -/
namespace Go.Proofs.Ytodldmomneecpab.Rx
open Go
set_option linter.unusedVariables false
set_option maxRecDepth 100000
set_option maxHeartbeats 0
def N65 : Nat := 8
noncomputable def F65 : Fns := F0
theorem F65_ok : FnsOk tau Try.prog F65 := F0_ok
def an65 : An := (.seq .leaf (.seq (.seq .leaf (.cond (.seq .leaf .leaf) .leaf)) (.seq .leaf .leaf)))
def g65 (f : Nat) (nl : Bool) (fl : Bool) (l : List PV) (k : Res → Option Res) : Option Res :=
  bif nl then
    k (Res.mk (PV.ro 5 true true []) [] [])
  else bif roomy (0 + l.length) 1 && true then
    k (Res.mk (PV.ow 5 16 [] 0 (0 + l.length) none) [] [Ent.vec false 5 false ([] ++ l)])
  else none
theorem e65 (f : Nat) (nl : Bool) (fl : Bool) (l : List PV) (k : Res → Option Res) : evFn tau F65 Try.f65 (Try.f65.body.get!) an65 [] 0 [.ro 5 nl fl l] [] k = g65 f nl fl l k := by kernel_rfl
theorem it65 (f : Nat) : items (Try.f65.body.get!) an65 = [] := by kernel_rfl
theorem ia65 (f : Nat) : ∀ q ∈ items (Try.f65.body.get!) an65, q.Ok tau Try.prog 0 := by
  rw [it65 f]; intro q hq; cases hq
theorem fo65 : Try.prog.funcs[65]? = some Try.f65 := by kernel_rfl
theorem bo65 : Try.f65.body = some (Try.f65.body.get!) := by kernel_rfl
theorem en65 : Enters Try.prog 65 := enters_of fo65 (by kernel_rfl) bo65
def run65 : List PV → List Ent → (Res → Option Res) → Option Res
  | [.ro 5 nl fl l], [], k => g65 0 nl fl l k
  | _, _, _ => none
def s65 : Sig := { own := [], run := run65 }
theorem ok65 : CallOk tau Try.prog 65 s65 := fn_ok tabOk F65_ok mixed fo65 bo65 an65 [] 0 [] run65 (ia65 0) fun xs es k res hr => by
  unfold run65 at hr
  split at hr
  · exact ⟨rfl, 0, (e65 0 _ _ _  _).trans hr⟩
  · cases hr
end Go.Proofs.Ytodldmomneecpab.Rx

/- What comitia/code.Int computes. Own work, printed by a program of the worker's own. -/
namespace Go.Proofs.Ytodldmomneecpab.Rx
open Go
set_option linter.unusedVariables false
set_option maxRecDepth 100000
set_option maxHeartbeats 0
def N41 : Nat := 24
noncomputable def F41 : Fns := addF 65 s65 F0
theorem F41_ok : FnsOk tau Try.prog F41 := F0_ok.add ok65 en65
noncomputable def c41_0 : Code := subC (Try.f41.body.get!) [1, 0]
def nm41_0 : Nm := [(0, .any), (1, .any), (5, .own), (6, .any)]
def nx41_0 : Nm := [(4, .any)]
def x41_0 : An := (.seq .leaf (.seq .leaf (.seq .leaf (.seq .leaf (.seq (.seq .leaf (.seq .leaf (.cond .leaf .leaf))) (.seq .leaf .leaf))))))
def an41 : An := (.seq .leaf (.scope nm41_0 x41_0))
def g41 (f : Nat) (nl : Bool) (fl : Bool) (b : List PV) (n : Int) (k : Res → Option Res) : Option Res :=
  bif nl then
    k (Res.mk
      (PV.ro 5 false false
        [PV.sc (Value.int IntKind.u8 (IntKind.u8.wrap (shrI IntKind.u64 (IntKind.u64.wrap n) (IntKind.i64.wrap (8 * 0))))),
          PV.sc (Value.int IntKind.u8 (IntKind.u8.wrap (shrI IntKind.u64 (IntKind.u64.wrap n) (IntKind.i64.wrap (8 * IntKind.i64.wrap (0 + 1)))))),
          PV.sc (Value.int IntKind.u8 (IntKind.u8.wrap (shrI IntKind.u64 (IntKind.u64.wrap n) (IntKind.i64.wrap (8 * IntKind.i64.wrap (IntKind.i64.wrap (0 + 1) + 1)))))),
          PV.sc (Value.int IntKind.u8 (IntKind.u8.wrap (shrI IntKind.u64 (IntKind.u64.wrap n) (IntKind.i64.wrap (8 * IntKind.i64.wrap (IntKind.i64.wrap (IntKind.i64.wrap (0 + 1) + 1) + 1)))))),
          PV.sc
            (Value.int IntKind.u8
              (IntKind.u8.wrap (shrI IntKind.u64 (IntKind.u64.wrap n) (IntKind.i64.wrap (8 * IntKind.i64.wrap (IntKind.i64.wrap (IntKind.i64.wrap (IntKind.i64.wrap (0 + 1) + 1) + 1) + 1)))))),
          PV.sc
            (Value.int IntKind.u8
              (IntKind.u8.wrap
                (shrI IntKind.u64 (IntKind.u64.wrap n) (IntKind.i64.wrap (8 * IntKind.i64.wrap (IntKind.i64.wrap (IntKind.i64.wrap (IntKind.i64.wrap (IntKind.i64.wrap (0 + 1) + 1) + 1) + 1) + 1)))))),
          PV.sc
            (Value.int IntKind.u8
              (IntKind.u8.wrap
                (shrI IntKind.u64 (IntKind.u64.wrap n)
                  (IntKind.i64.wrap (8 * IntKind.i64.wrap (IntKind.i64.wrap (IntKind.i64.wrap (IntKind.i64.wrap (IntKind.i64.wrap (IntKind.i64.wrap (0 + 1) + 1) + 1) + 1) + 1) + 1)))))),
          PV.sc
            (Value.int IntKind.u8
              (IntKind.u8.wrap
                (shrI IntKind.u64 (IntKind.u64.wrap n)
                  (IntKind.i64.wrap
                    (8 * IntKind.i64.wrap (IntKind.i64.wrap (IntKind.i64.wrap (IntKind.i64.wrap (IntKind.i64.wrap (IntKind.i64.wrap (IntKind.i64.wrap (0 + 1) + 1) + 1) + 1) + 1) + 1) + 1))))))])
      [] [])
  else bif roomy (0 + b.length) 1 && true then
    bif roomy (0 + b.length + 1) 1 && true then
      bif roomy (0 + b.length + 1 + 1) 1 && true then
        bif roomy (0 + b.length + 1 + 1 + 1) 1 && true then
          bif roomy (0 + b.length + 1 + 1 + 1 + 1) 1 && true then
            bif roomy (0 + b.length + 1 + 1 + 1 + 1 + 1) 1 && true then
              bif roomy (0 + b.length + 1 + 1 + 1 + 1 + 1 + 1) 1 && true then
                bif roomy (0 + b.length + 1 + 1 + 1 + 1 + 1 + 1 + 1) 1 && true then
                  bif roomy (0 + b.length + 1 + 1 + 1 + 1 + 1 + 1 + 1 + 1) 1 && true then
                    bif roomy
                        (0 +
                          (List.take (0 + b.length + 1 + 1 + 1 + 1 + 1 + 1 + 1 + 1)
                              (List.take (0 + b.length + 1 + 1 + 1 + 1 + 1 + 1 + 1)
                                  (List.take (0 + b.length + 1 + 1 + 1 + 1 + 1 + 1)
                                      (List.take (0 + b.length + 1 + 1 + 1 + 1 + 1)
                                          (List.take (0 + b.length + 1 + 1 + 1 + 1)
                                              (List.take (0 + b.length + 1 + 1 + 1)
                                                  (List.take (0 + b.length + 1 + 1)
                                                      (List.take (0 + b.length + 1)
                                                          (List.take (0 + b.length) ([] ++ b) ++
                                                            [PV.sc (Value.int IntKind.u8 (IntKind.u8.wrap (shrI IntKind.u64 (IntKind.u64.wrap n) (IntKind.i64.wrap (8 * 0)))))]) ++
                                                        [PV.sc (Value.int IntKind.u8 (IntKind.u8.wrap (shrI IntKind.u64 (IntKind.u64.wrap n) (IntKind.i64.wrap (8 * IntKind.i64.wrap (0 + 1))))))]) ++
                                                    [PV.sc
                                                        (Value.int IntKind.u8
                                                          (IntKind.u8.wrap (shrI IntKind.u64 (IntKind.u64.wrap n) (IntKind.i64.wrap (8 * IntKind.i64.wrap (IntKind.i64.wrap (0 + 1) + 1))))))]) ++
                                                [PV.sc
                                                    (Value.int IntKind.u8
                                                      (IntKind.u8.wrap
                                                        (shrI IntKind.u64 (IntKind.u64.wrap n) (IntKind.i64.wrap (8 * IntKind.i64.wrap (IntKind.i64.wrap (IntKind.i64.wrap (0 + 1) + 1) + 1))))))]) ++
                                            [PV.sc
                                                (Value.int IntKind.u8
                                                  (IntKind.u8.wrap
                                                    (shrI IntKind.u64 (IntKind.u64.wrap n)
                                                      (IntKind.i64.wrap (8 * IntKind.i64.wrap (IntKind.i64.wrap (IntKind.i64.wrap (IntKind.i64.wrap (0 + 1) + 1) + 1) + 1))))))]) ++
                                        [PV.sc
                                            (Value.int IntKind.u8
                                              (IntKind.u8.wrap
                                                (shrI IntKind.u64 (IntKind.u64.wrap n)
                                                  (IntKind.i64.wrap (8 * IntKind.i64.wrap (IntKind.i64.wrap (IntKind.i64.wrap (IntKind.i64.wrap (IntKind.i64.wrap (0 + 1) + 1) + 1) + 1) + 1))))))]) ++
                                    [PV.sc
                                        (Value.int IntKind.u8
                                          (IntKind.u8.wrap
                                            (shrI IntKind.u64 (IntKind.u64.wrap n)
                                              (IntKind.i64.wrap
                                                (8 *
                                                  IntKind.i64.wrap (IntKind.i64.wrap (IntKind.i64.wrap (IntKind.i64.wrap (IntKind.i64.wrap (IntKind.i64.wrap (0 + 1) + 1) + 1) + 1) + 1) + 1))))))]) ++
                                [PV.sc
                                    (Value.int IntKind.u8
                                      (IntKind.u8.wrap
                                        (shrI IntKind.u64 (IntKind.u64.wrap n)
                                          (IntKind.i64.wrap
                                            (8 *
                                              IntKind.i64.wrap
                                                (IntKind.i64.wrap (IntKind.i64.wrap (IntKind.i64.wrap (IntKind.i64.wrap (IntKind.i64.wrap (IntKind.i64.wrap (0 + 1) + 1) + 1) + 1) + 1) + 1) +
                                                  1))))))])).length)
                        1 &&
                      true then
                      k (Res.mk
                        (PV.ro 5 false false
                          (List.take
                            (0 +
                              (List.take (0 + b.length + 1 + 1 + 1 + 1 + 1 + 1 + 1 + 1)
                                  (List.take (0 + b.length + 1 + 1 + 1 + 1 + 1 + 1 + 1)
                                      (List.take (0 + b.length + 1 + 1 + 1 + 1 + 1 + 1)
                                          (List.take (0 + b.length + 1 + 1 + 1 + 1 + 1)
                                              (List.take (0 + b.length + 1 + 1 + 1 + 1)
                                                  (List.take (0 + b.length + 1 + 1 + 1)
                                                      (List.take (0 + b.length + 1 + 1)
                                                          (List.take (0 + b.length + 1)
                                                              (List.take (0 + b.length) ([] ++ b) ++
                                                                [PV.sc (Value.int IntKind.u8 (IntKind.u8.wrap (shrI IntKind.u64 (IntKind.u64.wrap n) (IntKind.i64.wrap (8 * 0)))))]) ++
                                                            [PV.sc
                                                                (Value.int IntKind.u8 (IntKind.u8.wrap (shrI IntKind.u64 (IntKind.u64.wrap n) (IntKind.i64.wrap (8 * IntKind.i64.wrap (0 + 1))))))]) ++
                                                        [PV.sc
                                                            (Value.int IntKind.u8
                                                              (IntKind.u8.wrap (shrI IntKind.u64 (IntKind.u64.wrap n) (IntKind.i64.wrap (8 * IntKind.i64.wrap (IntKind.i64.wrap (0 + 1) + 1))))))]) ++
                                                    [PV.sc
                                                        (Value.int IntKind.u8
                                                          (IntKind.u8.wrap
                                                            (shrI IntKind.u64 (IntKind.u64.wrap n)
                                                              (IntKind.i64.wrap (8 * IntKind.i64.wrap (IntKind.i64.wrap (IntKind.i64.wrap (0 + 1) + 1) + 1))))))]) ++
                                                [PV.sc
                                                    (Value.int IntKind.u8
                                                      (IntKind.u8.wrap
                                                        (shrI IntKind.u64 (IntKind.u64.wrap n)
                                                          (IntKind.i64.wrap (8 * IntKind.i64.wrap (IntKind.i64.wrap (IntKind.i64.wrap (IntKind.i64.wrap (0 + 1) + 1) + 1) + 1))))))]) ++
                                            [PV.sc
                                                (Value.int IntKind.u8
                                                  (IntKind.u8.wrap
                                                    (shrI IntKind.u64 (IntKind.u64.wrap n)
                                                      (IntKind.i64.wrap
                                                        (8 * IntKind.i64.wrap (IntKind.i64.wrap (IntKind.i64.wrap (IntKind.i64.wrap (IntKind.i64.wrap (0 + 1) + 1) + 1) + 1) + 1))))))]) ++
                                        [PV.sc
                                            (Value.int IntKind.u8
                                              (IntKind.u8.wrap
                                                (shrI IntKind.u64 (IntKind.u64.wrap n)
                                                  (IntKind.i64.wrap
                                                    (8 *
                                                      IntKind.i64.wrap
                                                        (IntKind.i64.wrap (IntKind.i64.wrap (IntKind.i64.wrap (IntKind.i64.wrap (IntKind.i64.wrap (0 + 1) + 1) + 1) + 1) + 1) + 1))))))]) ++
                                    [PV.sc
                                        (Value.int IntKind.u8
                                          (IntKind.u8.wrap
                                            (shrI IntKind.u64 (IntKind.u64.wrap n)
                                              (IntKind.i64.wrap
                                                (8 *
                                                  IntKind.i64.wrap
                                                    (IntKind.i64.wrap (IntKind.i64.wrap (IntKind.i64.wrap (IntKind.i64.wrap (IntKind.i64.wrap (IntKind.i64.wrap (0 + 1) + 1) + 1) + 1) + 1) + 1) +
                                                      1))))))])).length)
                            ([] ++
                              List.take (0 + b.length + 1 + 1 + 1 + 1 + 1 + 1 + 1 + 1)
                                (List.take (0 + b.length + 1 + 1 + 1 + 1 + 1 + 1 + 1)
                                    (List.take (0 + b.length + 1 + 1 + 1 + 1 + 1 + 1)
                                        (List.take (0 + b.length + 1 + 1 + 1 + 1 + 1)
                                            (List.take (0 + b.length + 1 + 1 + 1 + 1)
                                                (List.take (0 + b.length + 1 + 1 + 1)
                                                    (List.take (0 + b.length + 1 + 1)
                                                        (List.take (0 + b.length + 1)
                                                            (List.take (0 + b.length) ([] ++ b) ++
                                                              [PV.sc (Value.int IntKind.u8 (IntKind.u8.wrap (shrI IntKind.u64 (IntKind.u64.wrap n) (IntKind.i64.wrap (8 * 0)))))]) ++
                                                          [PV.sc (Value.int IntKind.u8 (IntKind.u8.wrap (shrI IntKind.u64 (IntKind.u64.wrap n) (IntKind.i64.wrap (8 * IntKind.i64.wrap (0 + 1))))))]) ++
                                                      [PV.sc
                                                          (Value.int IntKind.u8
                                                            (IntKind.u8.wrap (shrI IntKind.u64 (IntKind.u64.wrap n) (IntKind.i64.wrap (8 * IntKind.i64.wrap (IntKind.i64.wrap (0 + 1) + 1))))))]) ++
                                                  [PV.sc
                                                      (Value.int IntKind.u8
                                                        (IntKind.u8.wrap
                                                          (shrI IntKind.u64 (IntKind.u64.wrap n) (IntKind.i64.wrap (8 * IntKind.i64.wrap (IntKind.i64.wrap (IntKind.i64.wrap (0 + 1) + 1) + 1))))))]) ++
                                              [PV.sc
                                                  (Value.int IntKind.u8
                                                    (IntKind.u8.wrap
                                                      (shrI IntKind.u64 (IntKind.u64.wrap n)
                                                        (IntKind.i64.wrap (8 * IntKind.i64.wrap (IntKind.i64.wrap (IntKind.i64.wrap (IntKind.i64.wrap (0 + 1) + 1) + 1) + 1))))))]) ++
                                          [PV.sc
                                              (Value.int IntKind.u8
                                                (IntKind.u8.wrap
                                                  (shrI IntKind.u64 (IntKind.u64.wrap n)
                                                    (IntKind.i64.wrap
                                                      (8 * IntKind.i64.wrap (IntKind.i64.wrap (IntKind.i64.wrap (IntKind.i64.wrap (IntKind.i64.wrap (0 + 1) + 1) + 1) + 1) + 1))))))]) ++
                                      [PV.sc
                                          (Value.int IntKind.u8
                                            (IntKind.u8.wrap
                                              (shrI IntKind.u64 (IntKind.u64.wrap n)
                                                (IntKind.i64.wrap
                                                  (8 *
                                                    IntKind.i64.wrap
                                                      (IntKind.i64.wrap (IntKind.i64.wrap (IntKind.i64.wrap (IntKind.i64.wrap (IntKind.i64.wrap (0 + 1) + 1) + 1) + 1) + 1) + 1))))))]) ++
                                  [PV.sc
                                      (Value.int IntKind.u8
                                        (IntKind.u8.wrap
                                          (shrI IntKind.u64 (IntKind.u64.wrap n)
                                            (IntKind.i64.wrap
                                              (8 *
                                                IntKind.i64.wrap
                                                  (IntKind.i64.wrap (IntKind.i64.wrap (IntKind.i64.wrap (IntKind.i64.wrap (IntKind.i64.wrap (IntKind.i64.wrap (0 + 1) + 1) + 1) + 1) + 1) + 1) +
                                                    1))))))]))))
                        [] [])
                    else none
                  else none
                else none
              else none
            else none
          else none
        else none
      else none
    else none
  else none
theorem e41 (f : Nat) (nl : Bool) (fl : Bool) (b : List PV) (n : Int) (k : Res → Option Res) : evFn tau F41 Try.f41 (Try.f41.body.get!) an41 [.ro] 12 [.ro 5 nl fl b, .sc (.int .i64 n)] [] k = g41 f nl fl b n k := by kernel_rfl
theorem it41 (f : Nat) : items (Try.f41.body.get!) an41 = [] := by kernel_rfl
theorem ia41 (f : Nat) : ∀ q ∈ items (Try.f41.body.get!) an41, q.Ok tau Try.prog 0 := by
  rw [it41 f]; intro q hq; cases hq
theorem fo41 : Try.prog.funcs[41]? = some Try.f41 := by kernel_rfl
theorem bo41 : Try.f41.body = some (Try.f41.body.get!) := by kernel_rfl
theorem en41 : Enters Try.prog 41 := enters_of fo41 (by kernel_rfl) bo41
end Go.Proofs.Ytodldmomneecpab.Rx

/- What comitia/comitiaref1.Int computes. Own work, printed by a program of the worker's own. -/
namespace Go.Proofs.Ytodldmomneecpab.Rx
open Go
set_option linter.unusedVariables false
set_option maxRecDepth 100000
set_option maxHeartbeats 0
def N17 : Nat := 21
noncomputable def F17 : Fns := F0
theorem F17_ok : FnsOk tau Try.prog F17 := F0_ok
noncomputable def c17_0 : Code := subC (Try.f17.body.get!) [1, 0, 1, 0, 0]
def nm17_0 : Nm := [(0, .own), (1, .any), (5, .any)]
def nx17_0 : Nm := [(0, .any)]
def x17_0 : An := (.seq (.seq .leaf (.cond .leaf .leaf)) (.seq (.block none .leaf) .leaf))
def an17 : An := (.seq .leaf (.seq (.seq .leaf (.block none (.loop nm17_0 x17_0))) (.seq .leaf .leaf)))
def g17 (f : Nat) (n : Int) (k : Res → Option Res) : Option Res :=
  k (Res.mk (PV.ow 5 16 [] 0 8 none) []
    [Ent.vec false 5 false
        [PV.sc (Value.int IntKind.u8 (IntKind.u8.wrap (shrI IntKind.u64 (IntKind.u64.wrap n) (IntKind.u64.wrap (8 * IntKind.u64.wrap 0))))),
          PV.sc (Value.int IntKind.u8 (IntKind.u8.wrap (shrI IntKind.u64 (IntKind.u64.wrap n) (IntKind.u64.wrap (8 * IntKind.u64.wrap (IntKind.i64.wrap (0 + 1))))))),
          PV.sc (Value.int IntKind.u8 (IntKind.u8.wrap (shrI IntKind.u64 (IntKind.u64.wrap n) (IntKind.u64.wrap (8 * IntKind.u64.wrap (IntKind.i64.wrap (IntKind.i64.wrap (0 + 1) + 1))))))),
          PV.sc
            (Value.int IntKind.u8
              (IntKind.u8.wrap (shrI IntKind.u64 (IntKind.u64.wrap n) (IntKind.u64.wrap (8 * IntKind.u64.wrap (IntKind.i64.wrap (IntKind.i64.wrap (IntKind.i64.wrap (0 + 1) + 1) + 1))))))),
          PV.sc
            (Value.int IntKind.u8
              (IntKind.u8.wrap
                (shrI IntKind.u64 (IntKind.u64.wrap n) (IntKind.u64.wrap (8 * IntKind.u64.wrap (IntKind.i64.wrap (IntKind.i64.wrap (IntKind.i64.wrap (IntKind.i64.wrap (0 + 1) + 1) + 1) + 1))))))),
          PV.sc
            (Value.int IntKind.u8
              (IntKind.u8.wrap
                (shrI IntKind.u64 (IntKind.u64.wrap n)
                  (IntKind.u64.wrap (8 * IntKind.u64.wrap (IntKind.i64.wrap (IntKind.i64.wrap (IntKind.i64.wrap (IntKind.i64.wrap (IntKind.i64.wrap (0 + 1) + 1) + 1) + 1) + 1))))))),
          PV.sc
            (Value.int IntKind.u8
              (IntKind.u8.wrap
                (shrI IntKind.u64 (IntKind.u64.wrap n)
                  (IntKind.u64.wrap
                    (8 * IntKind.u64.wrap (IntKind.i64.wrap (IntKind.i64.wrap (IntKind.i64.wrap (IntKind.i64.wrap (IntKind.i64.wrap (IntKind.i64.wrap (0 + 1) + 1) + 1) + 1) + 1) + 1))))))),
          PV.sc
            (Value.int IntKind.u8
              (IntKind.u8.wrap
                (shrI IntKind.u64 (IntKind.u64.wrap n)
                  (IntKind.u64.wrap
                    (8 *
                      IntKind.u64.wrap
                        (IntKind.i64.wrap (IntKind.i64.wrap (IntKind.i64.wrap (IntKind.i64.wrap (IntKind.i64.wrap (IntKind.i64.wrap (IntKind.i64.wrap (0 + 1) + 1) + 1) + 1) + 1) + 1) + 1)))))))]])
theorem e17 (f : Nat) (n : Int) (k : Res → Option Res) : evFn tau F17 Try.f17 (Try.f17.body.get!) an17 [] 12 [.ro 5 true true [], .sc (.int .i64 n)] [] k = g17 f n k := by kernel_rfl
theorem it17 (f : Nat) : items (Try.f17.body.get!) an17 = [] := by kernel_rfl
theorem ia17 (f : Nat) : ∀ q ∈ items (Try.f17.body.get!) an17, q.Ok tau Try.prog 0 := by
  rw [it17 f]; intro q hq; cases hq
theorem fo17 : Try.prog.funcs[17]? = some Try.f17 := by kernel_rfl
theorem bo17 : Try.f17.body = some (Try.f17.body.get!) := by kernel_rfl
theorem en17 : Enters Try.prog 17 := enters_of fo17 (by kernel_rfl) bo17
def run17 : List PV → List Ent → (Res → Option Res) → Option Res
  | [.ro 5 true true [], .sc (.int .i64 n)], [], k => g17 0 n k
  | _, _, _ => none
def s17 : Sig := { own := [], run := run17 }
theorem ok17 : CallOk tau Try.prog 17 s17 := fn_ok tabOk F17_ok mixed fo17 bo17 an17 [] 0 [] run17 (ia17 0) fun xs es k res hr => by
  unfold run17 at hr
  split at hr
  · exact ⟨rfl, 12, (e17 0 _  _).trans hr⟩
  · cases hr
end Go.Proofs.Ytodldmomneecpab.Rx

/- What comitia/comitiaref1.Int computes. Own work, printed by a program of the worker's own. -/
namespace Go.Proofs.Ytodldmomneecpab.Rx
open Go
set_option linter.unusedVariables false
set_option maxRecDepth 100000
set_option maxHeartbeats 0
def N17b : Nat := 21
noncomputable def F17b : Fns := F0
theorem F17b_ok : FnsOk tau Try.prog F17b := F0_ok
noncomputable def c17b_0 : Code := subC (Try.f17.body.get!) [1, 0, 1, 0, 0]
def nm17b_0 : Nm := [(0, .any), (1, .any), (5, .any)]
def nx17b_0 : Nm := [(0, .any)]
def x17b_0 : An := (.seq (.seq .leaf (.cond .leaf .leaf)) (.seq (.block none .leaf) .leaf))
def an17b : An := (.seq .leaf (.seq (.seq .leaf (.block none (.loop nm17b_0 x17b_0))) (.seq .leaf .leaf)))
def g17b (f : Nat) (nl : Bool) (l : List PV) (m : Nat) (n : Int) (k : Res → Option Res) : Option Res :=
  bif roomy (m + 1) 1 && true then
    bif roomy (m + 1 + 1) 1 && true then
      bif roomy (m + 1 + 1 + 1) 1 && true then
        bif roomy (m + 1 + 1 + 1 + 1) 1 && true then
          bif roomy (m + 1 + 1 + 1 + 1 + 1) 1 && true then
            bif roomy (m + 1 + 1 + 1 + 1 + 1 + 1) 1 && true then
              bif roomy (m + 1 + 1 + 1 + 1 + 1 + 1 + 1) 1 && true then
                bif roomy (m + 1 + 1 + 1 + 1 + 1 + 1 + 1 + 1) 1 && true then
                  k (Res.mk (PV.ow 5 16 [] 0 (m + 1 + 1 + 1 + 1 + 1 + 1 + 1 + 1) none) [Ent.dead]
                    [Ent.vec false 5 (nl && false && false && false && false && false && false && false && false)
                        (List.take (m + 1 + 1 + 1 + 1 + 1 + 1 + 1)
                            (List.take (m + 1 + 1 + 1 + 1 + 1 + 1)
                                (List.take (m + 1 + 1 + 1 + 1 + 1)
                                    (List.take (m + 1 + 1 + 1 + 1)
                                        (List.take (m + 1 + 1 + 1)
                                            (List.take (m + 1 + 1)
                                                (List.take (m + 1)
                                                    (List.take m l ++
                                                      [PV.sc (Value.int IntKind.u8 (IntKind.u8.wrap (shrI IntKind.u64 (IntKind.u64.wrap n) (IntKind.u64.wrap (8 * IntKind.u64.wrap 0)))))]) ++
                                                  [PV.sc
                                                      (Value.int IntKind.u8
                                                        (IntKind.u8.wrap (shrI IntKind.u64 (IntKind.u64.wrap n) (IntKind.u64.wrap (8 * IntKind.u64.wrap (IntKind.i64.wrap (0 + 1)))))))]) ++
                                              [PV.sc
                                                  (Value.int IntKind.u8
                                                    (IntKind.u8.wrap
                                                      (shrI IntKind.u64 (IntKind.u64.wrap n) (IntKind.u64.wrap (8 * IntKind.u64.wrap (IntKind.i64.wrap (IntKind.i64.wrap (0 + 1) + 1)))))))]) ++
                                          [PV.sc
                                              (Value.int IntKind.u8
                                                (IntKind.u8.wrap
                                                  (shrI IntKind.u64 (IntKind.u64.wrap n)
                                                    (IntKind.u64.wrap (8 * IntKind.u64.wrap (IntKind.i64.wrap (IntKind.i64.wrap (IntKind.i64.wrap (0 + 1) + 1) + 1)))))))]) ++
                                      [PV.sc
                                          (Value.int IntKind.u8
                                            (IntKind.u8.wrap
                                              (shrI IntKind.u64 (IntKind.u64.wrap n)
                                                (IntKind.u64.wrap (8 * IntKind.u64.wrap (IntKind.i64.wrap (IntKind.i64.wrap (IntKind.i64.wrap (IntKind.i64.wrap (0 + 1) + 1) + 1) + 1)))))))]) ++
                                  [PV.sc
                                      (Value.int IntKind.u8
                                        (IntKind.u8.wrap
                                          (shrI IntKind.u64 (IntKind.u64.wrap n)
                                            (IntKind.u64.wrap
                                              (8 * IntKind.u64.wrap (IntKind.i64.wrap (IntKind.i64.wrap (IntKind.i64.wrap (IntKind.i64.wrap (IntKind.i64.wrap (0 + 1) + 1) + 1) + 1) + 1)))))))]) ++
                              [PV.sc
                                  (Value.int IntKind.u8
                                    (IntKind.u8.wrap
                                      (shrI IntKind.u64 (IntKind.u64.wrap n)
                                        (IntKind.u64.wrap
                                          (8 *
                                            IntKind.u64.wrap
                                              (IntKind.i64.wrap (IntKind.i64.wrap (IntKind.i64.wrap (IntKind.i64.wrap (IntKind.i64.wrap (IntKind.i64.wrap (0 + 1) + 1) + 1) + 1) + 1) + 1)))))))]) ++
                          [PV.sc
                              (Value.int IntKind.u8
                                (IntKind.u8.wrap
                                  (shrI IntKind.u64 (IntKind.u64.wrap n)
                                    (IntKind.u64.wrap
                                      (8 *
                                        IntKind.u64.wrap
                                          (IntKind.i64.wrap
                                            (IntKind.i64.wrap (IntKind.i64.wrap (IntKind.i64.wrap (IntKind.i64.wrap (IntKind.i64.wrap (IntKind.i64.wrap (0 + 1) + 1) + 1) + 1) + 1) + 1) + 1)))))))])])
                else none
              else none
            else none
          else none
        else none
      else none
    else none
  else none
theorem e17b (f : Nat) (nl : Bool) (l : List PV) (m : Nat) (n : Int) (k : Res → Option Res) : evFn tau F17b Try.f17 (Try.f17.body.get!) an17b [] 12 [.ow 5 0 [] 0 m none, .sc (.int .i64 n)] [.vec false 5 nl l] k = g17b f nl l m n k := by kernel_rfl
theorem it17b (f : Nat) : items (Try.f17.body.get!) an17b = [] := by kernel_rfl
theorem ia17b (f : Nat) : ∀ q ∈ items (Try.f17.body.get!) an17b, q.Ok tau Try.prog 1 := by
  rw [it17b f]; intro q hq; cases hq
theorem fo17b : Try.prog.funcs[17]? = some Try.f17 := by kernel_rfl
theorem bo17b : Try.f17.body = some (Try.f17.body.get!) := by kernel_rfl
theorem en17b : Enters Try.prog 17 := enters_of fo17b (by kernel_rfl) bo17b
def run17b : List PV → List Ent → (Res → Option Res) → Option Res
  | [.ow 5 0 [] 0 m none, .sc (.int .i64 n)], [.vec false 5 nl l], k => g17b 0 nl l m n k
  | _, _, _ => none
def s17b : Sig := { own := [true], run := run17b }
theorem ok17b : CallOk tau Try.prog 17 s17b := fn_ok tabOk F17b_ok mixed fo17b bo17b an17b [] 1 [true] run17b (ia17b 0) fun xs es k res hr => by
  unfold run17b at hr
  split at hr
  · exact ⟨rfl, 12, (e17b 0 _ _ _ _  _).trans hr⟩
  · cases hr
end Go.Proofs.Ytodldmomneecpab.Rx

/- A number's bytes. Own work. -/
namespace Go.Proofs.Ytodldmomneecpab.Rx
open Go
set_option linter.unusedVariables false
set_option linter.unusedSimpArgs false
set_option maxRecDepth 100000
set_option maxHeartbeats 1000000
def ib (n i : Int) : Int := IntKind.u8.wrap (shrI .u64 (IntKind.u64.wrap n) (8 * i))
def intB0 (n : Int) : List Int := [ib n 0, ib n 1, ib n 2, ib n 3, ib n 4, ib n 5, ib n 6, ib n 7]
/-- the same, said so that nothing is reckoned while the number isn't known -/
def intB (n : Int) : List Int := bif decide (n ≤ n) then intB0 n else []
theorem intB_eq (n : Int) : intB n = intB0 n := by simp [intB]
theorem intB_length (n : Int) : (intB n).length = 8 := by rw [intB_eq]; rfl
theorem g41_nil (b : List PV) (fl : Bool) (n : Int) (k : Res → Option Res) : g41 0 true fl b n k = k ⟨.ro 5 false false (pu .u8 (intB n)), [], []⟩ := by
  rw [intB_eq]; kernel_rfl
/-- the second road, its bytes spelt out -/
def app8 (b : List PV) (n : Int) : List PV := b ++ pu .u8 (intB n)
theorem g41_b (bs : List Int) (hb : bs.length ≤ 1000) (fl : Bool) (n : Int) (k : Res → Option Res) : g41 0 false fl (pu .u8 bs) n k = k ⟨.ro 5 false false (pu .u8 (bs ++ intB n)), [], []⟩ := by
  rw [intB_eq]
  unfold g41
  refine (bif_f rfl).trans ?_
  have hl : (pu IntKind.u8 bs).length = bs.length := pu_length _ _
  repeat (refine (bif_t (by simp [roomy]; omega)).trans ?_)
  repeat rw [List.take_of_length_le (by simp <;> omega)]
  simp only [List.nil_append, List.append_assoc, pu_append]
  rfl
def run41' : List PV → List Ent → (Res → Option Res) → Option Res
  | [.ro 5 nl fl b, .sc (.int .i64 n)], [], k => bif allInt .u8 b && (decide (b.length ≤ 1000) && (!nl || b.isEmpty)) then k ⟨.ro 5 false false (pu .u8 (ints b ++ intB n)), [], []⟩ else none
  | _, _, _ => none
def s41' : Sig := { own := [], run := run41' }
theorem ok41' : CallOk tau Try.prog 41 s41' := fn_ok tabOk F41_ok mixed fo41 bo41 an41 [.ro] 0 [] run41' (ia41 0) fun xs es k res hr => by
  unfold run41' at hr
  split at hr
  · rename_i nl fl b n
    obtain ⟨hc, hr2⟩ := of_bif hr
    clear hr
    simp only [Bool.and_eq_true, decide_eq_true_eq, Bool.or_eq_true, Bool.not_eq_true'] at hc
    refine ⟨rfl, 12, (e41 0 _ _ _ _ _).trans ?_⟩
    cases nl with
    | true =>
      have he : b = [] := by simpa using hc.2.2
      subst he
      rw [g41_nil]; exact hr2
    | false =>
      rw [pu_ints hc.1, g41_b _ (by simpa using hc.2.1)]; exact hr2
  · cases hr
theorem g17_nil (n : Int) (k : Res → Option Res) : g17 0 n k = k ⟨.ow 5 16 [] 0 8 none, [], [.vec false 5 false (pu .u8 (intB n))]⟩ := by
  rw [intB_eq]; kernel_rfl
theorem g17_own (nl : Bool) (l : List PV) (hl : l.length ≤ 1000) (n : Int) (k : Res → Option Res) : g17b 0 nl l l.length n k = k ⟨.ow 5 16 [] 0 (l.length + 8) none, [.dead], [.vec false 5 false (l ++ pu .u8 (intB n))]⟩ := by
  rw [intB_eq]
  unfold g17b
  repeat (refine (bif_t (by simp [roomy]; omega)).trans ?_)
  repeat rw [List.take_of_length_le (by simp <;> omega)]
  simp only [Bool.and_false, List.append_assoc]
  rfl
def run17' : List PV → List Ent → (Res → Option Res) → Option Res
  | [.ro 5 true true [], .sc (.int .i64 n)], [], k => k ⟨.ow 5 16 [] 0 8 none, [], [.vec false 5 false (pu .u8 (intB n))]⟩
  | [.ow 5 0 [] 0 m none, .sc (.int .i64 n)], [.vec false 5 nl l], k => bif decide (m = l.length) && decide (l.length ≤ 1000) then k ⟨.ow 5 16 [] 0 (m + 8) none, [.dead], [.vec false 5 false (l ++ pu .u8 (intB n))]⟩ else none
  | _, _, _ => none
def s17' : Sig := { own := [true], run := run17' }
theorem ok17' : CallOk tau Try.prog 17 s17' := CallOk.mk' fun xs es k res hl hr => by
  change run17' xs es k = some res at hr
  unfold run17' at hr
  split at hr
  · rename_i n
    have h1 := (e17 0 n k).trans ((g17_nil n k).trans hr)
    exact fn_at tabOk F17_ok mixed fo17 bo17 an17 [] 0 12 (ia17 0) hl rfl h1
  · rename_i m n nl l
    obtain ⟨hc, hr2⟩ := of_bif hr
    simp only [Bool.and_eq_true, decide_eq_true_eq] at hc
    obtain ⟨rfl, hc⟩ := hc
    have h1 := (e17b 0 nl l l.length n k).trans ((g17_own nl l hc n k).trans hr2)
    exact fn_at tabOk F17b_ok mixed fo17b bo17b an17b [] 1 12 (ia17b 0) hl rfl h1
  · cases hr
end Go.Proofs.Ytodldmomneecpab.Rx

/- What math/bits.RotateLeft32 computes. Own work, printed by a program of the worker's own. -/
namespace Go.Proofs.Ytodldmomneecpab.Rx
open Go
set_option linter.unusedVariables false
set_option maxRecDepth 100000
set_option maxHeartbeats 0
def N109 : Nat := 17
noncomputable def F109 : Fns := F0
theorem F109_ok : FnsOk tau Try.prog F109 := F0_ok
def an109 : An := (.seq .leaf (.seq .leaf (.seq .leaf .leaf)))
def g109 (f : Nat) (x : Int) (n : Int) (k : Res → Option Res) : Option Res :=
  bif decide (0 ≤ IntKind.u64.wrap (32 - bitI BinOp.and IntKind.u64 (IntKind.u64.wrap n) 31)) && true then
    k (Res.mk
      (PV.sc
        (Value.int IntKind.u32
          (bitI BinOp.or IntKind.u32 (shlI IntKind.u32 x (bitI BinOp.and IntKind.u64 (IntKind.u64.wrap n) 31))
            (shrI IntKind.u32 x (IntKind.u64.wrap (32 - bitI BinOp.and IntKind.u64 (IntKind.u64.wrap n) 31))))))
      [] [])
  else none
theorem e109 (f : Nat) (x : Int) (n : Int) (k : Res → Option Res) : evFn tau F109 Try.f109 (Try.f109.body.get!) an109 [] 0 [.sc (.int .u32 x), .sc (.int .i64 n)] [] k = g109 f x n k := by kernel_rfl
theorem it109 (f : Nat) : items (Try.f109.body.get!) an109 = [] := by kernel_rfl
theorem ia109 (f : Nat) : ∀ q ∈ items (Try.f109.body.get!) an109, q.Ok tau Try.prog 0 := by
  rw [it109 f]; intro q hq; cases hq
theorem fo109 : Try.prog.funcs[109]? = some Try.f109 := by kernel_rfl
theorem bo109 : Try.f109.body = some (Try.f109.body.get!) := by kernel_rfl
theorem en109 : Enters Try.prog 109 := enters_of fo109 (by kernel_rfl) bo109
def run109 : List PV → List Ent → (Res → Option Res) → Option Res
  | [.sc (.int .u32 x), .sc (.int .i64 n)], [], k => g109 0 x n k
  | _, _, _ => none
def s109 : Sig := { own := [], run := run109 }
theorem ok109 : CallOk tau Try.prog 109 s109 := fn_ok tabOk F109_ok mixed fo109 bo109 an109 [] 0 [] run109 (ia109 0) fun xs es k res hr => by
  unfold run109 at hr
  split at hr
  · exact ⟨rfl, 0, (e109 0 _ _  _).trans hr⟩
  · cases hr
end Go.Proofs.Ytodldmomneecpab.Rx

/- What comitia/sha.right computes. Own work, printed by a program of the worker's own. -/
namespace Go.Proofs.Ytodldmomneecpab.Rx
open Go
set_option linter.unusedVariables false
set_option maxRecDepth 100000
set_option maxHeartbeats 0
def N93 : Nat := 9
noncomputable def F93 : Fns := addF 109 s109 F0
theorem F93_ok : FnsOk tau Try.prog F93 := F0_ok.add ok109 en109
def an93 : An := (.seq .leaf (.seq .leaf .leaf))
def g93 (f : Nat) (x : Int) (n : Int) (k : Res → Option Res) : Option Res :=
  bif decide (0 ≤ IntKind.u64.wrap (32 - bitI BinOp.and IntKind.u64 (IntKind.u64.wrap (IntKind.i64.wrap (0 - n))) 31)) && true then
    k (Res.mk
      (PV.sc
        (Value.int IntKind.u32
          (bitI BinOp.or IntKind.u32 (shlI IntKind.u32 x (bitI BinOp.and IntKind.u64 (IntKind.u64.wrap (IntKind.i64.wrap (0 - n))) 31))
            (shrI IntKind.u32 x (IntKind.u64.wrap (32 - bitI BinOp.and IntKind.u64 (IntKind.u64.wrap (IntKind.i64.wrap (0 - n))) 31))))))
      [] [])
  else none
theorem e93 (f : Nat) (x : Int) (n : Int) (k : Res → Option Res) : evFn tau F93 Try.f93 (Try.f93.body.get!) an93 [] 0 [.sc (.int .u32 x), .sc (.int .i64 n)] [] k = g93 f x n k := by kernel_rfl
theorem it93 (f : Nat) : items (Try.f93.body.get!) an93 = [] := by kernel_rfl
theorem ia93 (f : Nat) : ∀ q ∈ items (Try.f93.body.get!) an93, q.Ok tau Try.prog 0 := by
  rw [it93 f]; intro q hq; cases hq
theorem fo93 : Try.prog.funcs[93]? = some Try.f93 := by kernel_rfl
theorem bo93 : Try.f93.body = some (Try.f93.body.get!) := by kernel_rfl
theorem en93 : Enters Try.prog 93 := enters_of fo93 (by kernel_rfl) bo93
def run93 : List PV → List Ent → (Res → Option Res) → Option Res
  | [.sc (.int .u32 x), .sc (.int .i64 n)], [], k => g93 0 x n k
  | _, _, _ => none
def s93 : Sig := { own := [], run := run93 }
theorem ok93 : CallOk tau Try.prog 93 s93 := fn_ok tabOk F93_ok mixed fo93 bo93 an93 [] 0 [] run93 (ia93 0) fun xs es k res hr => by
  unfold run93 at hr
  split at hr
  · exact ⟨rfl, 0, (e93 0 _ _  _).trans hr⟩
  · cases hr
end Go.Proofs.Ytodldmomneecpab.Rx

/- What comitia/comitiaref2.rot computes. Own work, printed by a program of the worker's own. -/
namespace Go.Proofs.Ytodldmomneecpab.Rx
open Go
set_option linter.unusedVariables false
set_option maxRecDepth 100000
set_option maxHeartbeats 0
def N44 : Nat := 13
noncomputable def F44 : Fns := F0
theorem F44_ok : FnsOk tau Try.prog F44 := F0_ok
def an44 : An := (.seq .leaf (.seq .leaf .leaf))
def g44 (f : Nat) (x : Int) (n : Int) (k : Res → Option Res) : Option Res :=
  bif decide (0 ≤ n) && true then
    bif decide (0 ≤ IntKind.u64.wrap (32 - n)) && true then
      k (Res.mk (PV.sc (Value.int IntKind.u32 (bitI BinOp.or IntKind.u32 (shrI IntKind.u32 x n) (shlI IntKind.u32 x (IntKind.u64.wrap (32 - n)))))) [] [])
    else none
  else none
theorem e44 (f : Nat) (x : Int) (n : Int) (k : Res → Option Res) : evFn tau F44 Try.f44 (Try.f44.body.get!) an44 [] 0 [.sc (.int .u32 x), .sc (.int .u64 n)] [] k = g44 f x n k := by kernel_rfl
theorem it44 (f : Nat) : items (Try.f44.body.get!) an44 = [] := by kernel_rfl
theorem ia44 (f : Nat) : ∀ q ∈ items (Try.f44.body.get!) an44, q.Ok tau Try.prog 0 := by
  rw [it44 f]; intro q hq; cases hq
theorem fo44 : Try.prog.funcs[44]? = some Try.f44 := by kernel_rfl
theorem bo44 : Try.f44.body = some (Try.f44.body.get!) := by kernel_rfl
theorem en44 : Enters Try.prog 44 := enters_of fo44 (by kernel_rfl) bo44
def run44 : List PV → List Ent → (Res → Option Res) → Option Res
  | [.sc (.int .u32 x), .sc (.int .u64 n)], [], k => g44 0 x n k
  | _, _, _ => none
def s44 : Sig := { own := [], run := run44 }
theorem ok44 : CallOk tau Try.prog 44 s44 := fn_ok tabOk F44_ok mixed fo44 bo44 an44 [] 0 [] run44 (ia44 0) fun xs es k res hr => by
  unfold run44 at hr
  split at hr
  · exact ⟨rfl, 0, (e44 0 _ _  _).trans hr⟩
  · cases hr
end Go.Proofs.Ytodldmomneecpab.Rx

/- Words that are turned. Own work. -/
namespace Go.Proofs.Ytodldmomneecpab.Rx
open Go
set_option linter.unusedVariables false
set_option maxRecDepth 100000
/-- a word turned to the right -/
def rr (x n : Int) : Int := bitI .or .u32 (shlI .u32 x (32 - n)) (shrI .u32 x n)
theorem bitI_or_comm (x y : Int) : bitI .or .u32 x y = bitI .or .u32 y x := by
  simp only [bitI]; rw [BitVec.or_comm]
theorem small {P : Int → Prop} (h : ∀ m : Nat, m < 31 → P ((m : Int) + 1)) (n : Int) (h1 : 1 ≤ n) (h2 : n ≤ 31) : P n := by
  have := h (n - 1).toNat (by omega)
  have he : (((n - 1).toNat : Nat) : Int) + 1 = n := by omega
  rwa [he] at this
def run93' : List PV → List Ent → (Res → Option Res) → Option Res
  | [.sc (.int .u32 x), .sc (.int .i64 n)], [], k => bif decide (1 ≤ n) && decide (n ≤ 31) then k ⟨.sc (.int .u32 (rr x n)), [], []⟩ else none
  | _, _, _ => none
def s93' : Sig := { own := [], run := run93' }
theorem g93_small (x : Int) (k : Res → Option Res) (n : Int) (h1 : 1 ≤ n) (h2 : n ≤ 31) : g93 0 x n k = k ⟨.sc (.int .u32 (rr x n)), [], []⟩ := by
  refine small (P := fun n => g93 0 x n k = k ⟨.sc (.int .u32 (rr x n)), [], []⟩) ?_ n h1 h2
  intro m hm
  iterate 31 (rcases m with _ | m; · kernel_rfl)
  omega
theorem ok93' : CallOk tau Try.prog 93 s93' := ok93.of fun xs es k res hr => by
  change run93' xs es k = some res at hr
  unfold run93' at hr
  split at hr
  · obtain ⟨hc, hr⟩ := of_bif hr
    simp only [Bool.and_eq_true, decide_eq_true_eq] at hc
    exact (g93_small _ _ _ hc.1 hc.2).trans hr
  · cases hr
def run44' : List PV → List Ent → (Res → Option Res) → Option Res
  | [.sc (.int .u32 x), .sc (.int .u64 n)], [], k => bif decide (1 ≤ n) && decide (n ≤ 31) then k ⟨.sc (.int .u32 (rr x n)), [], []⟩ else none
  | _, _, _ => none
def s44' : Sig := { own := [], run := run44' }
theorem g44_small (x : Int) (k : Res → Option Res) (n : Int) (h1 : 1 ≤ n) (h2 : n ≤ 31) : g44 0 x n k = k ⟨.sc (.int .u32 (rr x n)), [], []⟩ := by
  have hc : ∀ n, rr x n = bitI .or .u32 (shrI .u32 x n) (shlI .u32 x (32 - n)) := fun n => bitI_or_comm _ _
  rw [hc]
  refine small (P := fun n => g44 0 x n k = k ⟨.sc (.int .u32 (bitI .or .u32 (shrI .u32 x n) (shlI .u32 x (32 - n)))), [], []⟩) ?_ n h1 h2
  intro m hm
  iterate 31 (rcases m with _ | m; · kernel_rfl)
  omega
theorem ok44' : CallOk tau Try.prog 44 s44' := ok44.of fun xs es k res hr => by
  change run44' xs es k = some res at hr
  unfold run44' at hr
  split at hr
  · obtain ⟨hc, hr⟩ := of_bif hr
    simp only [Bool.and_eq_true, decide_eq_true_eq] at hc
    exact (g44_small _ _ _ hc.1 hc.2).trans hr
  · cases hr
end Go.Proofs.Ytodldmomneecpab.Rx

/- What comitia/sha.spread computes. Own work, printed by a program of the worker's own. -/
namespace Go.Proofs.Ytodldmomneecpab.Rx
open Go
set_option linter.unusedVariables false
set_option maxRecDepth 100000
set_option maxHeartbeats 0
def N91 : Nat := 89
noncomputable def F91 : Fns := addF 93 s93' F0
theorem F91_ok : FnsOk tau Try.prog F91 := F0_ok.add ok93' en93
noncomputable def c91_0 : Code := subC (Try.f91.body.get!) [1, 1, 0, 1, 0, 0]
def nm91_0 : Nm := [(0, .any), (2, .any), (3, .any), (8, .any)]
def nx91_0 : Nm := [(2, .any), (3, .any)]
def x91_0 : An := (.seq .leaf (.seq (.cond .leaf .leaf) (.seq (.block none (.seq .leaf .leaf)) .leaf)))
noncomputable def c91_1 : Code := subC (Try.f91.body.get!) [1, 1, 1, 0, 1, 0, 0]
def nm91_1 : Nm := [(2, .any), (3, .any), (5, .any)]
def nx91_1 : Nm := [(2, .any), (3, .any)]
def x91_1 : An := (.seq (.seq .leaf (.cond .leaf .leaf)) (.seq (.block none (.seq .leaf .leaf)) .leaf))
def an91 (r0 : RunL) (r1 : RunL) : An := (.seq .leaf (.seq .leaf (.seq (.seq .leaf (.block none (.sum nm91_0 N91 r0))) (.seq (.seq .leaf (.block none (.sum nm91_1 N91 r1))) (.seq .leaf .leaf)))))
def lpS91_0 (f : Nat) (rc : Bool → Bool → List
  PV → Int → List PV → List PV → Option Res) (k0 : List PV → List PV → Option Res) (v0 : Bool) (v1 : Bool) (v2 : List PV) (v3 : Int) (v4 : List PV) (v5 : List PV) : Option Res :=
  bif decide (v3 < 16) then
    bif decide (0 ≤ IntKind.i64.wrap (4 * v3)) && decide (IntKind.i64.wrap (4 * v3) < zi v2.length) && PV.isInt IntKind.u8 (v2.getD (IntKind.i64.wrap (4 * v3)).toNat PV.top) && true then
      bif decide (0 ≤ IntKind.i64.wrap (IntKind.i64.wrap (4 * v3) + 1)) && decide (IntKind.i64.wrap (IntKind.i64.wrap (4 * v3) + 1) < zi v2.length) &&
          PV.isInt IntKind.u8 (v2.getD (IntKind.i64.wrap (IntKind.i64.wrap (4 * v3) + 1)).toNat PV.top) &&
        true then
        bif decide (0 ≤ IntKind.i64.wrap (IntKind.i64.wrap (4 * v3) + 2)) && decide (IntKind.i64.wrap (IntKind.i64.wrap (4 * v3) + 2) < zi v2.length) &&
            PV.isInt IntKind.u8 (v2.getD (IntKind.i64.wrap (IntKind.i64.wrap (4 * v3) + 2)).toNat PV.top) &&
          true then
          bif decide (0 ≤ IntKind.i64.wrap (IntKind.i64.wrap (4 * v3) + 3)) && decide (IntKind.i64.wrap (IntKind.i64.wrap (4 * v3) + 3) < zi v2.length) &&
              PV.isInt IntKind.u8 (v2.getD (IntKind.i64.wrap (IntKind.i64.wrap (4 * v3) + 3)).toNat PV.top) &&
            true then
            bif decide (0 ≤ v3) && decide (v3 < zi 64) && true then
              rc v0 v1 v2 (IntKind.i64.wrap
                (v3 +
                  1)) v4 (v5.set v3.toNat
                (PV.sc
                  (Value.int IntKind.u32
                    (bitI BinOp.or IntKind.u32
                      (bitI BinOp.or IntKind.u32
                        (bitI BinOp.or IntKind.u32 (shlI IntKind.u32 (IntKind.u32.wrap (v2.getD (IntKind.i64.wrap (4 * v3)).toNat PV.top).int) 24)
                          (shlI IntKind.u32 (IntKind.u32.wrap (v2.getD (IntKind.i64.wrap (IntKind.i64.wrap (4 * v3) + 1)).toNat PV.top).int) 16))
                        (shlI IntKind.u32 (IntKind.u32.wrap (v2.getD (IntKind.i64.wrap (IntKind.i64.wrap (4 * v3) + 2)).toNat PV.top).int) 8))
                      (IntKind.u32.wrap (v2.getD (IntKind.i64.wrap (IntKind.i64.wrap (4 * v3) + 3)).toNat PV.top).int)))))
            else none
          else none
        else none
      else none
    else none
  else k0 v4 v5
def lp91_0 (f : Nat) (k0 : List PV → List PV → Option Res) : Nat → Bool → Bool → List PV → Int → List PV → List PV → Option Res
  | 0, _, _, _, _, _, _ => none
  | n + 1, v0, v1, v2, v3, v4, v5 => lpS91_0 f (lp91_0 f k0 n) k0 v0 v1 v2 v3 v4 v5
theorem lpR91_0 (f : Nat) (k : Kont) (n : Nat) (v0 : Bool) (v1 : Bool) (v2 : List
  PV) (v3 : Int) (v4 : List
  PV) (v5 : List
  PV) : evLoop tau 0 nm91_0 (fun s k => ev tau F91 0 0 c91_0 (x91_0 ) s k) (n + 1) (fillS nm91_0 N91 [PV.ro 5 v0 v1 v2, PV.ptr 1440 [], PV.ptr 1441 [],
  PV.sc
    (Value.int IntKind.i64
      v3)] [(1440, Ent.box false 104 (PV.ar 104 v4)),
  (1441,
    Ent.box false 104
      (PV.ar 104
        v5))]) (kNorm tau 0 nx91_0 k) = lpS91_0 f (fun v0 v1 v2 v3 v4 v5 => evLoop tau 0 nm91_0 (fun s k => ev tau F91 0 0 c91_0 (x91_0 ) s k) n (fillS nm91_0 N91 [PV.ro 5 v0 v1 v2,
  PV.ptr 1440 [], PV.ptr 1441 [],
  PV.sc
    (Value.int IntKind.i64
      v3)] [(1440, Ent.box false 104 (PV.ar 104 v4)),
  (1441,
    Ent.box false 104
      (PV.ar 104
        v5))]) (kNorm tau 0 nx91_0 k)) (fun x0 x1 => k (Ex.exit
  0) (fillS nx91_0 N91 [PV.ptr 1440 [], PV.ptr 1441 []] [(1440, Ent.box false 104 (PV.ar 104 x0)), (1441, Ent.box false 104 (PV.ar 104 x1))])) v0 v1 v2 v3 v4 v5 := by kernel_rfl
theorem lpE91_0 (f : Nat) (k : Kont) : ∀ (n : Nat) (v0 : Bool) (v1 : Bool) (v2 : List
  PV) (v3 : Int) (v4 : List
  PV) (v5 : List
  PV), evLoop tau 0 nm91_0 (fun s k => ev tau F91 0 0 c91_0 (x91_0 ) s k) n (fillS nm91_0 N91 [PV.ro 5 v0 v1 v2, PV.ptr 1440 [], PV.ptr 1441 [],
  PV.sc
    (Value.int IntKind.i64
      v3)] [(1440, Ent.box false 104 (PV.ar 104 v4)),
  (1441,
    Ent.box false 104
      (PV.ar 104
        v5))]) (kNorm tau 0 nx91_0 k) = lp91_0 f (fun x0 x1 => k (Ex.exit
  0) (fillS nx91_0 N91 [PV.ptr 1440 [], PV.ptr 1441 []] [(1440, Ent.box false 104 (PV.ar 104 x0)), (1441, Ent.box false 104 (PV.ar 104 x1))])) n v0 v1 v2 v3 v4 v5
  | 0, _, _, _, _, _, _ => rfl
  | n + 1, v0, v1, v2, v3, v4, v5 => (lpR91_0 f k n v0 v1 v2 v3 v4 v5).trans (congrArg (fun r => lpS91_0 f r (fun x0 x1 => k (Ex.exit
  0) (fillS nx91_0 N91 [PV.ptr 1440 [],
  PV.ptr 1441 []] [(1440, Ent.box false 104 (PV.ar 104 x0)), (1441, Ent.box false 104 (PV.ar 104 x1))])) v0 v1 v2 v3 v4 v5) (by funext v0 v1 v2 v3 v4 v5; exact lpE91_0 f k n v0 v1 v2 v3 v4 v5))
def r91_0 (f : Nat) : List PV → List (Nat × Ent) → Kont → Option Res
  | [PV.ro 5 v0 v1 v2, PV.ptr 1440 [], PV.ptr 1441 [],
  PV.sc
    (Value.int IntKind.i64
      v3)], [(1440, Ent.box false 104 (PV.ar 104 v4)),
  (1441,
    Ent.box false 104
      (PV.ar 104
        v5))], k => lp91_0 f (fun x0 x1 => k (Ex.exit
  0) (fillS nx91_0 N91 [PV.ptr 1440 [], PV.ptr 1441 []] [(1440, Ent.box false 104 (PV.ar 104 x0)), (1441, Ent.box false 104 (PV.ar 104 x1))])) f v0 v1 v2 v3 v4 v5
  | _, _, _ => none
theorem it91_0 (f : Nat) : items c91_0 x91_0 = [] := by kernel_rfl
theorem i91_0 (f : Nat) : (Item.l c91_0 nm91_0 N91 (r91_0 f)).Ok tau Try.prog 0 := loop_item tabOk F91_ok mixed (x := x91_0) (nm2 := nx91_0) (anOk_items _ _ (by rw [it91_0 f]; intro q hq; cases hq)) fun vs hp k res hr => by
  unfold r91_0 at hr
  split at hr
  · exact ⟨f, 0, (lpE91_0 f _ f _ _ _ _ _ _ ).trans hr⟩
  · cases hr
def lpS91_1 (f : Nat) (rc : Int → List PV → List PV → Option Res) (k0 : List PV → List PV → Option Res) (v0 : Int) (v1 : List PV) (v2 : List PV) : Option Res :=
  bif decide (v0 < 64) then
    bif decide (0 ≤ IntKind.i64.wrap (v0 - 15)) && decide (IntKind.i64.wrap (v0 - 15) < zi 64) && true then
      bif PV.isInt IntKind.u32 (getP (PV.ar 104 v2) [(IntKind.i64.wrap (v0 - 15)).toNat]) && true then
        bif decide (0 ≤ IntKind.i64.wrap (v0 - 2)) && decide (IntKind.i64.wrap (v0 - 2) < zi 64) && true then
          bif PV.isInt IntKind.u32 (getP (PV.ar 104 v2) [(IntKind.i64.wrap (v0 - 2)).toNat]) && true then
            bif decide (0 ≤ IntKind.i64.wrap (v0 - 16)) && decide (IntKind.i64.wrap (v0 - 16) < zi 64) && true then
              bif PV.isInt IntKind.u32 (getP (PV.ar 104 v2) [(IntKind.i64.wrap (v0 - 16)).toNat]) && true then
                bif decide (0 ≤ IntKind.i64.wrap (v0 - 7)) && decide (IntKind.i64.wrap (v0 - 7) < zi 64) && true then
                  bif PV.isInt IntKind.u32 (getP (PV.ar 104 v2) [(IntKind.i64.wrap (v0 - 7)).toNat]) && true then
                    bif decide (0 ≤ v0) && decide (v0 < zi 64) && true then
                      rc (IntKind.i64.wrap
                        (v0 +
                          1)) v1 (v2.set v0.toNat
                        (PV.sc
                          (Value.int IntKind.u32
                            (IntKind.u32.wrap
                              (IntKind.u32.wrap
                                  (IntKind.u32.wrap
                                      ((getP (PV.ar 104 v2) [(IntKind.i64.wrap (v0 - 16)).toNat]).int +
                                        bitI BinOp.xor IntKind.u32
                                          (bitI BinOp.xor IntKind.u32 (rr (getP (PV.ar 104 v2) [(IntKind.i64.wrap (v0 - 15)).toNat]).int 7)
                                            (rr (getP (PV.ar 104 v2) [(IntKind.i64.wrap (v0 - 15)).toNat]).int 18))
                                          (shrI IntKind.u32 (getP (PV.ar 104 v2) [(IntKind.i64.wrap (v0 - 15)).toNat]).int 3)) +
                                    (getP (PV.ar 104 v2) [(IntKind.i64.wrap (v0 - 7)).toNat]).int) +
                                bitI BinOp.xor IntKind.u32
                                  (bitI BinOp.xor IntKind.u32 (rr (getP (PV.ar 104 v2) [(IntKind.i64.wrap (v0 - 2)).toNat]).int 17)
                                    (rr (getP (PV.ar 104 v2) [(IntKind.i64.wrap (v0 - 2)).toNat]).int 19))
                                  (shrI IntKind.u32 (getP (PV.ar 104 v2) [(IntKind.i64.wrap (v0 - 2)).toNat]).int 10))))))
                    else none
                  else none
                else none
              else none
            else none
          else none
        else none
      else none
    else none
  else k0 v1 v2
def lp91_1 (f : Nat) (k0 : List PV → List PV → Option Res) : Nat → Int → List PV → List PV → Option Res
  | 0, _, _, _ => none
  | n + 1, v0, v1, v2 => lpS91_1 f (lp91_1 f k0 n) k0 v0 v1 v2
theorem lpR91_1 (f : Nat) (k : Kont) (n : Nat) (v0 : Int) (v1 : List
  PV) (v2 : List
  PV) : evLoop tau 0 nm91_1 (fun s k => ev tau F91 0 0 c91_1 (x91_1 ) s k) (n + 1) (fillS nm91_1 N91 [PV.ptr 1440 [], PV.ptr 1441 [],
  PV.sc
    (Value.int IntKind.i64
      v0)] [(1440, Ent.box false 104 (PV.ar 104 v1)),
  (1441,
    Ent.box false 104
      (PV.ar 104
        v2))]) (kNorm tau 0 nx91_1 k) = lpS91_1 f (fun v0 v1 v2 => evLoop tau 0 nm91_1 (fun s k => ev tau F91 0 0 c91_1 (x91_1 ) s k) n (fillS nm91_1 N91 [PV.ptr 1440 [], PV.ptr 1441 [],
  PV.sc
    (Value.int IntKind.i64
      v0)] [(1440, Ent.box false 104 (PV.ar 104 v1)),
  (1441,
    Ent.box false 104
      (PV.ar 104
        v2))]) (kNorm tau 0 nx91_1 k)) (fun x0 x1 => k (Ex.exit
  2) (fillS nx91_1 N91 [PV.ptr 1440 [], PV.ptr 1441 []] [(1440, Ent.box false 104 (PV.ar 104 x0)), (1441, Ent.box false 104 (PV.ar 104 x1))])) v0 v1 v2 := by kernel_rfl
theorem lpE91_1 (f : Nat) (k : Kont) : ∀ (n : Nat) (v0 : Int) (v1 : List
  PV) (v2 : List
  PV), evLoop tau 0 nm91_1 (fun s k => ev tau F91 0 0 c91_1 (x91_1 ) s k) n (fillS nm91_1 N91 [PV.ptr 1440 [], PV.ptr 1441 [],
  PV.sc
    (Value.int IntKind.i64
      v0)] [(1440, Ent.box false 104 (PV.ar 104 v1)),
  (1441,
    Ent.box false 104
      (PV.ar 104
        v2))]) (kNorm tau 0 nx91_1 k) = lp91_1 f (fun x0 x1 => k (Ex.exit
  2) (fillS nx91_1 N91 [PV.ptr 1440 [], PV.ptr 1441 []] [(1440, Ent.box false 104 (PV.ar 104 x0)), (1441, Ent.box false 104 (PV.ar 104 x1))])) n v0 v1 v2
  | 0, _, _, _ => rfl
  | n + 1, v0, v1, v2 => (lpR91_1 f k n v0 v1 v2).trans (congrArg (fun r => lpS91_1 f r (fun x0 x1 => k (Ex.exit
  2) (fillS nx91_1 N91 [PV.ptr 1440 [],
  PV.ptr 1441 []] [(1440, Ent.box false 104 (PV.ar 104 x0)), (1441, Ent.box false 104 (PV.ar 104 x1))])) v0 v1 v2) (by funext v0 v1 v2; exact lpE91_1 f k n v0 v1 v2))
def r91_1 (f : Nat) : List PV → List (Nat × Ent) → Kont → Option Res
  | [PV.ptr 1440 [], PV.ptr 1441 [],
  PV.sc
    (Value.int IntKind.i64
      v0)], [(1440, Ent.box false 104 (PV.ar 104 v1)),
  (1441,
    Ent.box false 104
      (PV.ar 104
        v2))], k => lp91_1 f (fun x0 x1 => k (Ex.exit
  2) (fillS nx91_1 N91 [PV.ptr 1440 [], PV.ptr 1441 []] [(1440, Ent.box false 104 (PV.ar 104 x0)), (1441, Ent.box false 104 (PV.ar 104 x1))])) f v0 v1 v2
  | _, _, _ => none
theorem it91_1 (f : Nat) : items c91_1 x91_1 = [] := by kernel_rfl
theorem i91_1 (f : Nat) : (Item.l c91_1 nm91_1 N91 (r91_1 f)).Ok tau Try.prog 0 := loop_item tabOk F91_ok mixed (x := x91_1) (nm2 := nx91_1) (anOk_items _ _ (by rw [it91_1 f]; intro q hq; cases hq)) fun vs hp k res hr => by
  unfold r91_1 at hr
  split at hr
  · exact ⟨f, 0, (lpE91_1 f _ f _ _ _ ).trans hr⟩
  · cases hr
def g91 (f : Nat) (nl : Bool) (fl : Bool) (b : List PV) (k : Res → Option Res) : Option Res :=
  lp91_0 f (fun x0_0 x1_0 =>
    lp91_1 f (fun x0_1 x1_1 =>
      k (Res.mk (PV.ar 104 x1_1) []
        [])) f (16) x0_0 x1_0) f nl fl b (0) ([PV.sc (Value.int IntKind.u32 0), PV.sc (Value.int IntKind.u32 0), PV.sc (Value.int IntKind.u32 0), PV.sc (Value.int IntKind.u32 0),
    PV.sc (Value.int IntKind.u32 0), PV.sc (Value.int IntKind.u32 0), PV.sc (Value.int IntKind.u32 0), PV.sc (Value.int IntKind.u32 0), PV.sc (Value.int IntKind.u32 0),
    PV.sc (Value.int IntKind.u32 0), PV.sc (Value.int IntKind.u32 0), PV.sc (Value.int IntKind.u32 0), PV.sc (Value.int IntKind.u32 0), PV.sc (Value.int IntKind.u32 0),
    PV.sc (Value.int IntKind.u32 0), PV.sc (Value.int IntKind.u32 0), PV.sc (Value.int IntKind.u32 0), PV.sc (Value.int IntKind.u32 0), PV.sc (Value.int IntKind.u32 0),
    PV.sc (Value.int IntKind.u32 0), PV.sc (Value.int IntKind.u32 0), PV.sc (Value.int IntKind.u32 0), PV.sc (Value.int IntKind.u32 0), PV.sc (Value.int IntKind.u32 0),
    PV.sc (Value.int IntKind.u32 0), PV.sc (Value.int IntKind.u32 0), PV.sc (Value.int IntKind.u32 0), PV.sc (Value.int IntKind.u32 0), PV.sc (Value.int IntKind.u32 0),
    PV.sc (Value.int IntKind.u32 0), PV.sc (Value.int IntKind.u32 0), PV.sc (Value.int IntKind.u32 0), PV.sc (Value.int IntKind.u32 0), PV.sc (Value.int IntKind.u32 0),
    PV.sc (Value.int IntKind.u32 0), PV.sc (Value.int IntKind.u32 0), PV.sc (Value.int IntKind.u32 0), PV.sc (Value.int IntKind.u32 0), PV.sc (Value.int IntKind.u32 0),
    PV.sc (Value.int IntKind.u32 0), PV.sc (Value.int IntKind.u32 0), PV.sc (Value.int IntKind.u32 0), PV.sc (Value.int IntKind.u32 0), PV.sc (Value.int IntKind.u32 0),
    PV.sc (Value.int IntKind.u32 0), PV.sc (Value.int IntKind.u32 0), PV.sc (Value.int IntKind.u32 0), PV.sc (Value.int IntKind.u32 0), PV.sc (Value.int IntKind.u32 0),
    PV.sc (Value.int IntKind.u32 0), PV.sc (Value.int IntKind.u32 0), PV.sc (Value.int IntKind.u32 0), PV.sc (Value.int IntKind.u32 0), PV.sc (Value.int IntKind.u32 0),
    PV.sc (Value.int IntKind.u32 0), PV.sc (Value.int IntKind.u32 0), PV.sc (Value.int IntKind.u32 0), PV.sc (Value.int IntKind.u32 0), PV.sc (Value.int IntKind.u32 0),
    PV.sc (Value.int IntKind.u32 0), PV.sc (Value.int IntKind.u32 0), PV.sc (Value.int IntKind.u32 0), PV.sc (Value.int IntKind.u32 0),
    PV.sc
      (Value.int IntKind.u32
        0)]) ([PV.sc (Value.int IntKind.u32 0), PV.sc (Value.int IntKind.u32 0), PV.sc (Value.int IntKind.u32 0), PV.sc (Value.int IntKind.u32 0), PV.sc (Value.int IntKind.u32 0),
    PV.sc (Value.int IntKind.u32 0), PV.sc (Value.int IntKind.u32 0), PV.sc (Value.int IntKind.u32 0), PV.sc (Value.int IntKind.u32 0), PV.sc (Value.int IntKind.u32 0),
    PV.sc (Value.int IntKind.u32 0), PV.sc (Value.int IntKind.u32 0), PV.sc (Value.int IntKind.u32 0), PV.sc (Value.int IntKind.u32 0), PV.sc (Value.int IntKind.u32 0),
    PV.sc (Value.int IntKind.u32 0), PV.sc (Value.int IntKind.u32 0), PV.sc (Value.int IntKind.u32 0), PV.sc (Value.int IntKind.u32 0), PV.sc (Value.int IntKind.u32 0),
    PV.sc (Value.int IntKind.u32 0), PV.sc (Value.int IntKind.u32 0), PV.sc (Value.int IntKind.u32 0), PV.sc (Value.int IntKind.u32 0), PV.sc (Value.int IntKind.u32 0),
    PV.sc (Value.int IntKind.u32 0), PV.sc (Value.int IntKind.u32 0), PV.sc (Value.int IntKind.u32 0), PV.sc (Value.int IntKind.u32 0), PV.sc (Value.int IntKind.u32 0),
    PV.sc (Value.int IntKind.u32 0), PV.sc (Value.int IntKind.u32 0), PV.sc (Value.int IntKind.u32 0), PV.sc (Value.int IntKind.u32 0), PV.sc (Value.int IntKind.u32 0),
    PV.sc (Value.int IntKind.u32 0), PV.sc (Value.int IntKind.u32 0), PV.sc (Value.int IntKind.u32 0), PV.sc (Value.int IntKind.u32 0), PV.sc (Value.int IntKind.u32 0),
    PV.sc (Value.int IntKind.u32 0), PV.sc (Value.int IntKind.u32 0), PV.sc (Value.int IntKind.u32 0), PV.sc (Value.int IntKind.u32 0), PV.sc (Value.int IntKind.u32 0),
    PV.sc (Value.int IntKind.u32 0), PV.sc (Value.int IntKind.u32 0), PV.sc (Value.int IntKind.u32 0), PV.sc (Value.int IntKind.u32 0), PV.sc (Value.int IntKind.u32 0),
    PV.sc (Value.int IntKind.u32 0), PV.sc (Value.int IntKind.u32 0), PV.sc (Value.int IntKind.u32 0), PV.sc (Value.int IntKind.u32 0), PV.sc (Value.int IntKind.u32 0),
    PV.sc (Value.int IntKind.u32 0), PV.sc (Value.int IntKind.u32 0), PV.sc (Value.int IntKind.u32 0), PV.sc (Value.int IntKind.u32 0), PV.sc (Value.int IntKind.u32 0),
    PV.sc (Value.int IntKind.u32 0), PV.sc (Value.int IntKind.u32 0), PV.sc (Value.int IntKind.u32 0), PV.sc (Value.int IntKind.u32 0)])
theorem e91 (f : Nat) (nl : Bool) (fl : Bool) (b : List PV) (k : Res → Option Res) : evFn tau F91 Try.f91 (Try.f91.body.get!) (an91 (r91_0 f) (r91_1 f)) [] 0 [.ro 5 nl fl b] [] k = g91 f nl fl b k := by kernel_rfl
theorem it91 (f : Nat) : items (Try.f91.body.get!) (an91 (r91_0 f) (r91_1 f)) = [.l c91_0 nm91_0 N91 (r91_0 f), .l c91_1 nm91_1 N91 (r91_1 f)] := by kernel_rfl
theorem ia91 (f : Nat) : ∀ q ∈ items (Try.f91.body.get!) (an91 (r91_0 f) (r91_1 f)), q.Ok tau Try.prog 0 := by
  rw [it91 f]; simp only [List.forall_mem_cons, List.not_mem_nil, false_implies, implies_true, and_true]; exact ⟨i91_0 f, i91_1 f⟩
theorem fo91 : Try.prog.funcs[91]? = some Try.f91 := by kernel_rfl
theorem bo91 : Try.f91.body = some (Try.f91.body.get!) := by kernel_rfl
theorem en91 : Enters Try.prog 91 := enters_of fo91 (by kernel_rfl) bo91
end Go.Proofs.Ytodldmomneecpab.Rx

/- The words of a piece, one for each round. Own work. -/
namespace Go.Proofs.Ytodldmomneecpab.Rx
open Go
set_option linter.unusedVariables false
set_option maxRecDepth 100000
abbrev ww (x : Int) : Int := IntKind.u32.wrap x
def word4 (a b c d : Int) : Int := bitI .or .u32 (bitI .or .u32 (bitI .or .u32 (shlI .u32 (ww a) 24) (shlI .u32 (ww b) 16)) (shlI .u32 (ww c) 8)) (ww d)
def sg0 (x : Int) : Int := bitI .xor .u32 (bitI .xor .u32 (rr x 7) (rr x 18)) (shrI .u32 x 3)
def sg1 (x : Int) : Int := bitI .xor .u32 (bitI .xor .u32 (rr x 17) (rr x 19)) (shrI .u32 x 10)
def nxtW (w16 w15 w7 w2 : Int) : Int := ww (ww (ww (w16 + sg0 w15) + w7) + sg1 w2)
def word (bs : List Int) (j : Nat) : Int := word4 (bs.getD (4 * j) 0) (bs.getD (4 * j + 1) 0) (bs.getD (4 * j + 2) 0) (bs.getD (4 * j + 3) 0)
def sched (bs : List Int) : Nat → List Int
  | 0 => (List.range 16).map (word bs)
  | i + 1 => sched bs i ++ [nxtW ((sched bs i).getD i 0) ((sched bs i).getD (i + 1) 0) ((sched bs i).getD (i + 9) 0) ((sched bs i).getD (i + 14) 0)]
def spreadP (bs : List Int) : List Int := sched bs 48
theorem sched_length (bs : List Int) : ∀ i, (sched bs i).length = 16 + i
  | 0 => by simp [sched]
  | i + 1 => by simp [sched, sched_length bs i]; omega
def fill0 (bs : List Int) (i : Nat) : List Int := (List.range i).map (word bs) ++ List.replicate (64 - i) 0
def fill1 (bs : List Int) (i : Nat) : List Int := sched bs i ++ List.replicate (48 - i) 0
theorem fill0_length (bs : List Int) (i : Nat) (h : i ≤ 64) : (fill0 bs i).length = 64 := by simp [fill0]; omega
theorem fill1_length (bs : List Int) (i : Nat) (h : i ≤ 48) : (fill1 bs i).length = 64 := by simp [fill1, sched_length]; omega
theorem set_fill (L : List Int) (m : Nat) (x : Int) : (L ++ List.replicate (m + 1) 0).set L.length x = (L ++ [x]) ++ List.replicate m 0 := by
  simp [List.replicate_succ]
theorem fill0_set (bs : List Int) (i : Nat) (h : i < 64) : (fill0 bs i).set i (word bs i) = fill0 bs (i + 1) := by
  have := set_fill ((List.range i).map (word bs)) (63 - i) (word bs i)
  simp only [List.length_map, List.length_range] at this
  simp only [fill0, show 64 - i = 63 - i + 1 from by omega, this, show 64 - (i + 1) = 63 - i from by omega, List.range_succ, List.map_append, List.map_cons, List.map_nil]
theorem fill1_get (bs : List Int) (i j : Nat) (h : j < 16 + i) : (fill1 bs i).getD j 0 = (sched bs i).getD j 0 := by
  simp only [fill1, List.getD_eq_getElem?_getD]
  rw [List.getElem?_append_left (by rw [sched_length]; exact h)]
theorem fill1_set (bs : List Int) (i : Nat) (h : i < 48) (x : Int) : (fill1 bs i).set (i + 16) x = (sched bs i ++ [x]) ++ List.replicate (48 - (i + 1)) 0 := by
  have := set_fill (sched bs i) (47 - i) x
  rw [sched_length] at this
  rw [fill1, show 48 - i = 47 - i + 1 from by omega, show i + 16 = 16 + i from by omega, this, show 48 - (i + 1) = 47 - i from by omega]
theorem l91_0 (bs : List Int) (hb : bs.length = 64) (f : Nat) (k0 : List PV → List PV → Option Res) (nl fl : Bool) (w : List PV) : ∀ (d i n : Nat), i + d = 16 → d < n →
    lp91_0 f k0 n nl fl (pu .u8 bs) (i : Int) w (pu .u32 (fill0 bs i)) = k0 w (pu .u32 (fill0 bs 16))
  | 0, i, n + 1, h, hn => by
      obtain rfl : i = 16 := by omega
      simp only [lp91_0, lpS91_0]
      exact bif_f (by decide)
  | d + 1, i, n + 1, h, hn => by
      have h4 : IntKind.i64.wrap (4 * (i : Int)) = ((4 * i : Nat) : Int) := by rw [wrap_i64 (by omega) (by omega)]; omega
      have h41 : IntKind.i64.wrap (((4 * i : Nat) : Int) + 1) = ((4 * i + 1 : Nat) : Int) := by rw [wrap_i64 (by omega) (by omega)]; omega
      have h42 : IntKind.i64.wrap (((4 * i : Nat) : Int) + 2) = ((4 * i + 2 : Nat) : Int) := by rw [wrap_i64 (by omega) (by omega)]; omega
      have h43 : IntKind.i64.wrap (((4 * i : Nat) : Int) + 3) = ((4 * i + 3 : Nat) : Int) := by rw [wrap_i64 (by omega) (by omega)]; omega
      have h5 : IntKind.i64.wrap ((i : Int) + 1) = ((i + 1 : Nat) : Int) := by rw [wrap_i64 (by omega) (by omega)]; omega
      simp only [lp91_0, lpS91_0, h4, h41, h42, h43, h5, Int.toNat_natCast, zi]
      rw [pu_isInt (by omega), pu_isInt (by omega), pu_isInt (by omega), pu_isInt (by omega), pu_int (by omega), pu_int (by omega), pu_int (by omega), pu_int (by omega), pu_length, pu_set]
      refine (bif_t (by simp; omega)).trans ?_
      refine (bif_t (by simp; omega)).trans ?_
      refine (bif_t (by simp; omega)).trans ?_
      refine (bif_t (by simp; omega)).trans ?_
      refine (bif_t (by simp; omega)).trans ?_
      refine (bif_t (by simp; omega)).trans ?_
      have := l91_0 bs hb f k0 nl fl w d (i + 1) n (by omega) (by omega)
      rw [← fill0_set bs i (by omega)] at this
      exact this
theorem l91_1 (bs : List Int) (f : Nat) (k0 : List PV → List PV → Option Res) (w : List PV) : ∀ (d i n : Nat), i + d = 48 → d < n →
    lp91_1 f k0 n ((i + 16 : Nat) : Int) w (pu .u32 (fill1 bs i)) = k0 w (pu .u32 (sched bs 48))
  | 0, i, n + 1, h, hn => by
      obtain rfl : i = 48 := by omega
      simp only [lp91_1, lpS91_1]
      exact (bif_f (by decide)).trans (by simp [fill1])
  | d + 1, i, n + 1, h, hn => by
      have h15 : IntKind.i64.wrap (((i + 16 : Nat) : Int) - 15) = ((i + 1 : Nat) : Int) := by rw [wrap_i64 (by omega) (by omega)]; omega
      have h2 : IntKind.i64.wrap (((i + 16 : Nat) : Int) - 2) = ((i + 14 : Nat) : Int) := by rw [wrap_i64 (by omega) (by omega)]; omega
      have h16 : IntKind.i64.wrap (((i + 16 : Nat) : Int) - 16) = ((i : Nat) : Int) := by rw [wrap_i64 (by omega) (by omega)]; omega
      have h7 : IntKind.i64.wrap (((i + 16 : Nat) : Int) - 7) = ((i + 9 : Nat) : Int) := by rw [wrap_i64 (by omega) (by omega)]; omega
      have h1 : IntKind.i64.wrap (((i + 16 : Nat) : Int) + 1) = ((i + 1 + 16 : Nat) : Int) := by rw [wrap_i64 (by omega) (by omega)]; omega
      have hl := fill1_length bs i (by omega)
      simp only [lp91_1, lpS91_1, h15, h2, h16, h7, h1, Int.toNat_natCast, zi, getP_ar]
      rw [pu_isInt (by omega), pu_isInt (by omega), pu_isInt (by omega), pu_isInt (by omega), pu_int (by omega), pu_int (by omega), pu_int (by omega), pu_int (by omega), pu_set]
      refine (bif_t (by simp; omega)).trans ?_
      refine (bif_t (by simp; omega)).trans ?_
      refine (bif_t (by simp)).trans ?_
      refine (bif_t (by simp; omega)).trans ?_
      refine (bif_t (by simp)).trans ?_
      refine (bif_t (by simp; omega)).trans ?_
      refine (bif_t (by simp)).trans ?_
      refine (bif_t (by simp; omega)).trans ?_
      refine (bif_t (by simp)).trans ?_
      refine (bif_t (by simp; omega)).trans ?_
      have := l91_1 bs f k0 w d (i + 1) n (by omega) (by omega)
      rw [fill1_get bs i i (by omega), fill1_get bs i (i + 1) (by omega), fill1_get bs i (i + 9) (by omega), fill1_get bs i (i + 14) (by omega), fill1_set bs i (by omega)]
      exact this
theorem g91_eq (bs : List Int) (hb : bs.length = 64) (nl fl : Bool) (k : Res → Option Res) : g91 100 nl fl (pu .u8 bs) k = k ⟨.ar 104 (pu .u32 (spreadP bs)), [], []⟩ := by
  have h0 : ∀ k0 w, lp91_0 100 k0 100 nl fl (pu .u8 bs) 0 w (pu .u32 (List.replicate 64 0)) = k0 w (pu .u32 (fill0 bs 16)) := fun k0 w => l91_0 bs hb 100 k0 nl fl w 16 0 100 (by omega) (by omega)
  have h1 : ∀ k0 w, lp91_1 100 k0 100 16 w (pu .u32 (fill0 bs 16)) = k0 w (pu .u32 (sched bs 48)) := fun k0 w => l91_1 bs 100 k0 w 48 0 100 (by omega) (by omega)
  exact (h0 _ _).trans (h1 _ _)
def run91' : List PV → List Ent → (Res → Option Res) → Option Res
  | [.ro 5 nl fl b], [], k => bif allInt .u8 b && decide (b.length = 64) then k ⟨.ar 104 (pu .u32 (spreadP (ints b))), [], []⟩ else none
  | _, _, _ => none
def s91' : Sig := { own := [], run := run91' }
theorem ok91' : CallOk tau Try.prog 91 s91' := fn_ok tabOk F91_ok mixed fo91 bo91 _ [] 0 [] run91' (ia91 100) fun xs es k res hr => by
  unfold run91' at hr
  split at hr
  · obtain ⟨hc, hr⟩ := of_bif hr
    simp only [Bool.and_eq_true, decide_eq_true_eq] at hc
    refine ⟨rfl, 0, (e91 100 _ _ _ _).trans ?_⟩
    rw [pu_ints hc.1, g91_eq _ (by simpa using hc.2)]
    exact hr
  · cases hr
end Go.Proofs.Ytodldmomneecpab.Rx

/- What comitia/sha.keys computes. Own work, printed by a program of the worker's own. -/
namespace Go.Proofs.Ytodldmomneecpab.Rx
open Go
set_option linter.unusedVariables false
set_option maxRecDepth 100000
set_option maxHeartbeats 0
def N92 : Nat := 2
noncomputable def F92 : Fns := F0
theorem F92_ok : FnsOk tau Try.prog F92 := F0_ok
def an92 : An := (.seq .leaf (.seq .leaf .leaf))
def g92 (f : Nat)  (k : Res → Option Res) : Option Res :=
  k (Res.mk
    (PV.ar 104
      [PV.sc (Value.int IntKind.u32 1116352408), PV.sc (Value.int IntKind.u32 1899447441), PV.sc (Value.int IntKind.u32 3049323471), PV.sc (Value.int IntKind.u32 3921009573),
        PV.sc (Value.int IntKind.u32 961987163), PV.sc (Value.int IntKind.u32 1508970993), PV.sc (Value.int IntKind.u32 2453635748), PV.sc (Value.int IntKind.u32 2870763221),
        PV.sc (Value.int IntKind.u32 3624381080), PV.sc (Value.int IntKind.u32 310598401), PV.sc (Value.int IntKind.u32 607225278), PV.sc (Value.int IntKind.u32 1426881987),
        PV.sc (Value.int IntKind.u32 1925078388), PV.sc (Value.int IntKind.u32 2162078206), PV.sc (Value.int IntKind.u32 2614888103), PV.sc (Value.int IntKind.u32 3248222580),
        PV.sc (Value.int IntKind.u32 3835390401), PV.sc (Value.int IntKind.u32 4022224774), PV.sc (Value.int IntKind.u32 264347078), PV.sc (Value.int IntKind.u32 604807628),
        PV.sc (Value.int IntKind.u32 770255983), PV.sc (Value.int IntKind.u32 1249150122), PV.sc (Value.int IntKind.u32 1555081692), PV.sc (Value.int IntKind.u32 1996064986),
        PV.sc (Value.int IntKind.u32 2554220882), PV.sc (Value.int IntKind.u32 2821834349), PV.sc (Value.int IntKind.u32 2952996808), PV.sc (Value.int IntKind.u32 3210313671),
        PV.sc (Value.int IntKind.u32 3336571891), PV.sc (Value.int IntKind.u32 3584528711), PV.sc (Value.int IntKind.u32 113926993), PV.sc (Value.int IntKind.u32 338241895),
        PV.sc (Value.int IntKind.u32 666307205), PV.sc (Value.int IntKind.u32 773529912), PV.sc (Value.int IntKind.u32 1294757372), PV.sc (Value.int IntKind.u32 1396182291),
        PV.sc (Value.int IntKind.u32 1695183700), PV.sc (Value.int IntKind.u32 1986661051), PV.sc (Value.int IntKind.u32 2177026350), PV.sc (Value.int IntKind.u32 2456956037),
        PV.sc (Value.int IntKind.u32 2730485921), PV.sc (Value.int IntKind.u32 2820302411), PV.sc (Value.int IntKind.u32 3259730800), PV.sc (Value.int IntKind.u32 3345764771),
        PV.sc (Value.int IntKind.u32 3516065817), PV.sc (Value.int IntKind.u32 3600352804), PV.sc (Value.int IntKind.u32 4094571909), PV.sc (Value.int IntKind.u32 275423344),
        PV.sc (Value.int IntKind.u32 430227734), PV.sc (Value.int IntKind.u32 506948616), PV.sc (Value.int IntKind.u32 659060556), PV.sc (Value.int IntKind.u32 883997877),
        PV.sc (Value.int IntKind.u32 958139571), PV.sc (Value.int IntKind.u32 1322822218), PV.sc (Value.int IntKind.u32 1537002063), PV.sc (Value.int IntKind.u32 1747873779),
        PV.sc (Value.int IntKind.u32 1955562222), PV.sc (Value.int IntKind.u32 2024104815), PV.sc (Value.int IntKind.u32 2227730452), PV.sc (Value.int IntKind.u32 2361852424),
        PV.sc (Value.int IntKind.u32 2428436474), PV.sc (Value.int IntKind.u32 2756734187), PV.sc (Value.int IntKind.u32 3204031479), PV.sc (Value.int IntKind.u32 3329325298)])
    [] [])
theorem e92 (f : Nat)  (k : Res → Option Res) : evFn tau F92 Try.f92 (Try.f92.body.get!) an92 [] 0 [] [] k = g92 f  k := by kernel_rfl
theorem it92 (f : Nat) : items (Try.f92.body.get!) an92 = [] := by kernel_rfl
theorem ia92 (f : Nat) : ∀ q ∈ items (Try.f92.body.get!) an92, q.Ok tau Try.prog 0 := by
  rw [it92 f]; intro q hq; cases hq
theorem fo92 : Try.prog.funcs[92]? = some Try.f92 := by kernel_rfl
theorem bo92 : Try.f92.body = some (Try.f92.body.get!) := by kernel_rfl
theorem en92 : Enters Try.prog 92 := enters_of fo92 (by kernel_rfl) bo92
def run92 : List PV → List Ent → (Res → Option Res) → Option Res
  | [], [], k => g92 0  k
  | _, _, _ => none
def s92 : Sig := { own := [], run := run92 }
theorem ok92 : CallOk tau Try.prog 92 s92 := fn_ok tabOk F92_ok mixed fo92 bo92 an92 [] 0 [] run92 (ia92 0) fun xs es k res hr => by
  unfold run92 at hr
  split at hr
  · exact ⟨rfl, 0, (e92 0  _).trans hr⟩
  · cases hr
end Go.Proofs.Ytodldmomneecpab.Rx

/- What (comitia/sha.state).add computes. Own work, printed by a program of the worker's own. -/
namespace Go.Proofs.Ytodldmomneecpab.Rx
open Go
set_option linter.unusedVariables false
set_option maxRecDepth 100000
set_option maxHeartbeats 0
def N69 : Nat := 113
noncomputable def F69 : Fns := addF 92 s92 (addF 91 s91' (addF 93 s93' F0))
theorem F69_ok : FnsOk tau Try.prog F69 := ((F0_ok.add ok93' en93).add ok91' en91).add ok92 en92
noncomputable def c69_0 : Code := subC (Try.f69.body.get!) [1, 1, 1, 0, 1, 0, 0]
def nm69_0 : Nm := [(2, .any), (4, .any), (5, .any), (6, .any), (7, .any), (18, .any)]
def nx69_0 : Nm := [(2, .any), (4, .any), (7, .any)]
def x69_0 : An := (.seq .leaf (.seq (.cond .leaf .leaf) (.seq (.block none (.seq .leaf (.seq .leaf (.seq .leaf (.seq .leaf .leaf))))) .leaf)))
noncomputable def c69_1 : Code := subC (Try.f69.body.get!) [1, 1, 1, 1, 0, 1, 0, 0]
def nm69_1 : Nm := [(2, .any), (4, .any), (7, .any), (100, .any)]
def nx69_1 : Nm := [(4, .any), (7, .any)]
def x69_1 : An := (.seq .leaf (.seq (.cond .leaf .leaf) (.seq (.block none (.seq .leaf .leaf)) .leaf)))
def an69 (r0 : RunL) (r1 : RunL) : An := (.seq .leaf (.seq .leaf (.seq .leaf (.seq (.seq .leaf (.block none (.sum nm69_0 N69 r0))) (.seq (.seq .leaf (.block none (.sum nm69_1 N69 r1))) (.seq .leaf .leaf))))))
def lpS69_0 (f : Nat) (rc : Int → List
  PV → List
  PV → List PV → List PV → List PV → Option Res) (k0 : List PV → List PV → List PV → Option Res) (v0 : Int) (v1 : List PV) (v2 : List PV) (v3 : List PV) (v4 : List PV) (v5 : List PV) : Option Res :=
  bif decide (v0 < 64) then
    bif PV.isInt IntKind.u32 (getP (PV.ar 137 v5) [4]) && true then
      bif PV.isInt IntKind.u32 (getP (PV.ar 137 v5) [0]) && true then
        bif PV.isInt IntKind.u32 (getP (PV.ar 137 v5) [7]) && true then
          bif PV.isInt IntKind.u32 (getP (PV.ar 137 v5) [5]) && true then
            bif PV.isInt IntKind.u32 (getP (PV.ar 137 v5) [6]) && true then
              bif decide (0 ≤ v0) && decide (v0 < zi 64) && true then
                bif PV.isInt IntKind.u32 (getP (PV.ar 104 v4) [v0.toNat]) && true then
                  bif decide (0 ≤ v0) && decide (v0 < zi 64) && true then
                    bif PV.isInt IntKind.u32 (getP (PV.ar 104 v3) [v0.toNat]) && true then
                      bif PV.isInt IntKind.u32 (getP (PV.ar 137 v5) [1]) && true then
                        bif PV.isInt IntKind.u32 (getP (PV.ar 137 v5) [2]) && true then
                          bif PV.isInt IntKind.u32 (getP (PV.ar 137 v5) [1]) && true then
                            bif PV.isInt IntKind.u32 (getP (PV.ar 137 v5) [2]) && true then
                              bif PV.isInt IntKind.u32 (getP (PV.ar 137 v5) [0]) && true then
                                bif PV.isInt IntKind.u32 (getP (PV.ar 137 v5) [1]) && true then
                                  bif PV.isInt IntKind.u32 (getP (PV.ar 137 v5) [2]) && true then
                                    bif PV.isInt IntKind.u32 (getP (PV.ar 137 v5) [3]) && true then
                                      bif PV.isInt IntKind.u32 (getP (PV.ar 137 v5) [4]) && true then
                                        bif PV.isInt IntKind.u32 (getP (PV.ar 137 v5) [5]) && true then
                                          bif PV.isInt IntKind.u32 (getP (PV.ar 137 v5) [6]) && true then
                                            rc (IntKind.i64.wrap
                                              (v0 +
                                                1)) v1 v2 v3 v4 ([PV.sc
                                                (Value.int IntKind.u32
                                                  (IntKind.u32.wrap
                                                    (IntKind.u32.wrap
                                                        (IntKind.u32.wrap
                                                            (IntKind.u32.wrap
                                                                (IntKind.u32.wrap
                                                                    ((getP (PV.ar 137 v5) [7]).int +
                                                                      bitI BinOp.xor IntKind.u32 (bitI BinOp.xor IntKind.u32 (rr (getP (PV.ar 137 v5) [4]).int 6) (rr (getP (PV.ar 137 v5) [4]).int 11))
                                                                        (rr (getP (PV.ar 137 v5) [4]).int 25)) +
                                                                  bitI BinOp.xor IntKind.u32 (bitI BinOp.and IntKind.u32 (getP (PV.ar 137 v5) [4]).int (getP (PV.ar 137 v5) [5]).int)
                                                                    (bitI BinOp.and IntKind.u32
                                                                      (bitI BinOp.xor IntKind.u32 (Int.ofNat (2 ^ IntKind.u32.bits - Nat.succ 0)) (getP (PV.ar 137 v5) [4]).int)
                                                                      (getP (PV.ar 137 v5) [6]).int)) +
                                                              (getP (PV.ar 104 v4) [v0.toNat]).int) +
                                                          (getP (PV.ar 104 v3) [v0.toNat]).int) +
                                                      IntKind.u32.wrap
                                                        (bitI BinOp.xor IntKind.u32 (bitI BinOp.xor IntKind.u32 (rr (getP (PV.ar 137 v5) [0]).int 2) (rr (getP (PV.ar 137 v5) [0]).int 13))
                                                            (rr (getP (PV.ar 137 v5) [0]).int 22) +
                                                          bitI BinOp.xor IntKind.u32
                                                            (bitI BinOp.xor IntKind.u32 (bitI BinOp.and IntKind.u32 (getP (PV.ar 137 v5) [0]).int (getP (PV.ar 137 v5) [1]).int)
                                                              (bitI BinOp.and IntKind.u32 (getP (PV.ar 137 v5) [0]).int (getP (PV.ar 137 v5) [2]).int))
                                                            (bitI BinOp.and IntKind.u32 (getP (PV.ar 137 v5) [1]).int (getP (PV.ar 137 v5) [2]).int))))),
                                              PV.sc (Value.int IntKind.u32 (getP (PV.ar 137 v5) [0]).int), PV.sc (Value.int IntKind.u32 (getP (PV.ar 137 v5) [1]).int),
                                              PV.sc (Value.int IntKind.u32 (getP (PV.ar 137 v5) [2]).int),
                                              PV.sc
                                                (Value.int IntKind.u32
                                                  (IntKind.u32.wrap
                                                    ((getP (PV.ar 137 v5) [3]).int +
                                                      IntKind.u32.wrap
                                                        (IntKind.u32.wrap
                                                            (IntKind.u32.wrap
                                                                (IntKind.u32.wrap
                                                                    ((getP (PV.ar 137 v5) [7]).int +
                                                                      bitI BinOp.xor IntKind.u32 (bitI BinOp.xor IntKind.u32 (rr (getP (PV.ar 137 v5) [4]).int 6) (rr (getP (PV.ar 137 v5) [4]).int 11))
                                                                        (rr (getP (PV.ar 137 v5) [4]).int 25)) +
                                                                  bitI BinOp.xor IntKind.u32 (bitI BinOp.and IntKind.u32 (getP (PV.ar 137 v5) [4]).int (getP (PV.ar 137 v5) [5]).int)
                                                                    (bitI BinOp.and IntKind.u32
                                                                      (bitI BinOp.xor IntKind.u32 (Int.ofNat (2 ^ IntKind.u32.bits - Nat.succ 0)) (getP (PV.ar 137 v5) [4]).int)
                                                                      (getP (PV.ar 137 v5) [6]).int)) +
                                                              (getP (PV.ar 104 v4) [v0.toNat]).int) +
                                                          (getP (PV.ar 104 v3) [v0.toNat]).int)))),
                                              PV.sc (Value.int IntKind.u32 (getP (PV.ar 137 v5) [4]).int), PV.sc (Value.int IntKind.u32 (getP (PV.ar 137 v5) [5]).int),
                                              PV.sc (Value.int IntKind.u32 (getP (PV.ar 137 v5) [6]).int)])
                                          else none
                                        else none
                                      else none
                                    else none
                                  else none
                                else none
                              else none
                            else none
                          else none
                        else none
                      else none
                    else none
                  else none
                else none
              else none
            else none
          else none
        else none
      else none
    else none
  else k0 v1 v2 v5
def lp69_0 (f : Nat) (k0 : List PV → List PV → List PV → Option Res) : Nat → Int → List PV → List PV → List PV → List PV → List PV → Option Res
  | 0, _, _, _, _, _, _ => none
  | n + 1, v0, v1, v2, v3, v4, v5 => lpS69_0 f (lp69_0 f k0 n) k0 v0 v1 v2 v3 v4 v5
theorem lpR69_0 (f : Nat) (k : Kont) (n : Nat) (v0 : Int) (v1 : List
  PV) (v2 : List
  PV) (v3 : List
  PV) (v4 : List
  PV) (v5 : List
  PV) : evLoop tau 0 nm69_0 (fun s k => ev tau F69 0 0 c69_0 (x69_0 ) s k) (n + 1) (fillS nm69_0 N69 [PV.ptr 1824 [], PV.ptr 1825 [], PV.ptr 1826 [], PV.ptr 1827 [], PV.ptr 1828 [],
  PV.sc
    (Value.int IntKind.i64
      v0)] [(1824, Ent.box false 137 (PV.ar 137 v1)), (1825, Ent.box false 137 (PV.ar 137 v2)), (1826, Ent.box false 104 (PV.ar 104 v3)), (1827, Ent.box false 104 (PV.ar 104 v4)),
  (1828,
    Ent.box false 137
      (PV.ar 137
        v5))]) (kNorm tau 0 nx69_0 k) = lpS69_0 f (fun v0 v1 v2 v3 v4 v5 => evLoop tau 0 nm69_0 (fun s k => ev tau F69 0 0 c69_0 (x69_0 ) s k) n (fillS nm69_0 N69 [PV.ptr 1824 [], PV.ptr 1825 [],
  PV.ptr 1826 [], PV.ptr 1827 [], PV.ptr 1828 [],
  PV.sc
    (Value.int IntKind.i64
      v0)] [(1824, Ent.box false 137 (PV.ar 137 v1)), (1825, Ent.box false 137 (PV.ar 137 v2)), (1826, Ent.box false 104 (PV.ar 104 v3)), (1827, Ent.box false 104 (PV.ar 104 v4)),
  (1828,
    Ent.box false 137
      (PV.ar 137
        v5))]) (kNorm tau 0 nx69_0 k)) (fun x0 x1 x2 => k (Ex.exit
  0) (fillS nx69_0 N69 [PV.ptr 1824 [], PV.ptr 1825 [],
  PV.ptr 1826 []] [(1824, Ent.box false 137 (PV.ar 137 x0)), (1825, Ent.box false 137 (PV.ar 137 x1)), (1826, Ent.box false 137 (PV.ar 137 x2))])) v0 v1 v2 v3 v4 v5 := by kernel_rfl
theorem lpE69_0 (f : Nat) (k : Kont) : ∀ (n : Nat) (v0 : Int) (v1 : List
  PV) (v2 : List
  PV) (v3 : List
  PV) (v4 : List
  PV) (v5 : List
  PV), evLoop tau 0 nm69_0 (fun s k => ev tau F69 0 0 c69_0 (x69_0 ) s k) n (fillS nm69_0 N69 [PV.ptr 1824 [], PV.ptr 1825 [], PV.ptr 1826 [], PV.ptr 1827 [], PV.ptr 1828 [],
  PV.sc
    (Value.int IntKind.i64
      v0)] [(1824, Ent.box false 137 (PV.ar 137 v1)), (1825, Ent.box false 137 (PV.ar 137 v2)), (1826, Ent.box false 104 (PV.ar 104 v3)), (1827, Ent.box false 104 (PV.ar 104 v4)),
  (1828,
    Ent.box false 137
      (PV.ar 137
        v5))]) (kNorm tau 0 nx69_0 k) = lp69_0 f (fun x0 x1 x2 => k (Ex.exit
  0) (fillS nx69_0 N69 [PV.ptr 1824 [], PV.ptr 1825 [],
  PV.ptr 1826 []] [(1824, Ent.box false 137 (PV.ar 137 x0)), (1825, Ent.box false 137 (PV.ar 137 x1)), (1826, Ent.box false 137 (PV.ar 137 x2))])) n v0 v1 v2 v3 v4 v5
  | 0, _, _, _, _, _, _ => rfl
  | n + 1, v0, v1, v2, v3, v4, v5 => (lpR69_0 f k n v0 v1 v2 v3 v4 v5).trans (congrArg (fun r => lpS69_0 f r (fun x0 x1 x2 => k (Ex.exit
  0) (fillS nx69_0 N69 [PV.ptr 1824 [], PV.ptr 1825 [],
  PV.ptr 1826
    []] [(1824, Ent.box false 137 (PV.ar 137 x0)), (1825, Ent.box false 137 (PV.ar 137 x1)),
  (1826, Ent.box false 137 (PV.ar 137 x2))])) v0 v1 v2 v3 v4 v5) (by funext v0 v1 v2 v3 v4 v5; exact lpE69_0 f k n v0 v1 v2 v3 v4 v5))
def r69_0 (f : Nat) : List PV → List (Nat × Ent) → Kont → Option Res
  | [PV.ptr 1824 [], PV.ptr 1825 [], PV.ptr 1826 [], PV.ptr 1827 [], PV.ptr 1828 [],
  PV.sc
    (Value.int IntKind.i64
      v0)], [(1824, Ent.box false 137 (PV.ar 137 v1)), (1825, Ent.box false 137 (PV.ar 137 v2)), (1826, Ent.box false 104 (PV.ar 104 v3)), (1827, Ent.box false 104 (PV.ar 104 v4)),
  (1828,
    Ent.box false 137
      (PV.ar 137
        v5))], k => lp69_0 f (fun x0 x1 x2 => k (Ex.exit
  0) (fillS nx69_0 N69 [PV.ptr 1824 [], PV.ptr 1825 [],
  PV.ptr 1826 []] [(1824, Ent.box false 137 (PV.ar 137 x0)), (1825, Ent.box false 137 (PV.ar 137 x1)), (1826, Ent.box false 137 (PV.ar 137 x2))])) f v0 v1 v2 v3 v4 v5
  | _, _, _ => none
theorem it69_0 (f : Nat) : items c69_0 x69_0 = [] := by kernel_rfl
theorem i69_0 (f : Nat) : (Item.l c69_0 nm69_0 N69 (r69_0 f)).Ok tau Try.prog 0 := loop_item tabOk F69_ok mixed (x := x69_0) (nm2 := nx69_0) (anOk_items _ _ (by rw [it69_0 f]; intro q hq; cases hq)) fun vs hp k res hr => by
  unfold r69_0 at hr
  split at hr
  · exact ⟨f, 0, (lpE69_0 f _ f _ _ _ _ _ _ ).trans hr⟩
  · cases hr
def lpS69_1 (f : Nat) (rc : Int → List PV → List PV → List PV → Option Res) (k0 : List PV → List PV → Option Res) (v0 : Int) (v1 : List PV) (v2 : List PV) (v3 : List PV) : Option Res :=
  bif decide (v0 < 8) then
    bif decide (0 ≤ v0) && decide (v0 < zi 8) && true then
      bif PV.isInt IntKind.u32 (getP (PV.ar 137 v3) [v0.toNat]) && true then
        bif decide (0 ≤ v0) && decide (v0 < zi 8) && true then
          bif PV.isInt IntKind.u32 (getP (PV.ar 137 v1) [v0.toNat]) && true then
            bif decide (0 ≤ v0) && decide (v0 < zi 8) && true then
              rc (IntKind.i64.wrap (v0 + 1)) v1 v2 (v3.set v0.toNat (PV.sc (Value.int IntKind.u32 (IntKind.u32.wrap ((getP (PV.ar 137 v3) [v0.toNat]).int + (getP (PV.ar 137 v1) [v0.toNat]).int)))))
            else none
          else none
        else none
      else none
    else none
  else k0 v2 v3
def lp69_1 (f : Nat) (k0 : List PV → List PV → Option Res) : Nat → Int → List PV → List PV → List PV → Option Res
  | 0, _, _, _, _ => none
  | n + 1, v0, v1, v2, v3 => lpS69_1 f (lp69_1 f k0 n) k0 v0 v1 v2 v3
theorem lpR69_1 (f : Nat) (k : Kont) (n : Nat) (v0 : Int) (v1 : List
  PV) (v2 : List
  PV) (v3 : List
  PV) : evLoop tau 0 nm69_1 (fun s k => ev tau F69 0 0 c69_1 (x69_1 ) s k) (n + 1) (fillS nm69_1 N69 [PV.ptr 1824 [], PV.ptr 1825 [], PV.ptr 1826 [],
  PV.sc
    (Value.int IntKind.i64
      v0)] [(1824, Ent.box false 137 (PV.ar 137 v1)), (1825, Ent.box false 137 (PV.ar 137 v2)),
  (1826,
    Ent.box false 137
      (PV.ar 137
        v3))]) (kNorm tau 0 nx69_1 k) = lpS69_1 f (fun v0 v1 v2 v3 => evLoop tau 0 nm69_1 (fun s k => ev tau F69 0 0 c69_1 (x69_1 ) s k) n (fillS nm69_1 N69 [PV.ptr 1824 [], PV.ptr 1825 [],
  PV.ptr 1826 [],
  PV.sc
    (Value.int IntKind.i64
      v0)] [(1824, Ent.box false 137 (PV.ar 137 v1)), (1825, Ent.box false 137 (PV.ar 137 v2)),
  (1826,
    Ent.box false 137
      (PV.ar 137
        v3))]) (kNorm tau 0 nx69_1 k)) (fun x0 x1 => k (Ex.exit
  2) (fillS nx69_1 N69 [PV.ptr 1824 [], PV.ptr 1825 []] [(1824, Ent.box false 137 (PV.ar 137 x0)), (1825, Ent.box false 137 (PV.ar 137 x1))])) v0 v1 v2 v3 := by kernel_rfl
theorem lpE69_1 (f : Nat) (k : Kont) : ∀ (n : Nat) (v0 : Int) (v1 : List
  PV) (v2 : List
  PV) (v3 : List
  PV), evLoop tau 0 nm69_1 (fun s k => ev tau F69 0 0 c69_1 (x69_1 ) s k) n (fillS nm69_1 N69 [PV.ptr 1824 [], PV.ptr 1825 [], PV.ptr 1826 [],
  PV.sc
    (Value.int IntKind.i64
      v0)] [(1824, Ent.box false 137 (PV.ar 137 v1)), (1825, Ent.box false 137 (PV.ar 137 v2)),
  (1826,
    Ent.box false 137
      (PV.ar 137
        v3))]) (kNorm tau 0 nx69_1 k) = lp69_1 f (fun x0 x1 => k (Ex.exit
  2) (fillS nx69_1 N69 [PV.ptr 1824 [], PV.ptr 1825 []] [(1824, Ent.box false 137 (PV.ar 137 x0)), (1825, Ent.box false 137 (PV.ar 137 x1))])) n v0 v1 v2 v3
  | 0, _, _, _, _ => rfl
  | n + 1, v0, v1, v2, v3 => (lpR69_1 f k n v0 v1 v2 v3).trans (congrArg (fun r => lpS69_1 f r (fun x0 x1 => k (Ex.exit
  2) (fillS nx69_1 N69 [PV.ptr 1824 [],
  PV.ptr 1825 []] [(1824, Ent.box false 137 (PV.ar 137 x0)), (1825, Ent.box false 137 (PV.ar 137 x1))])) v0 v1 v2 v3) (by funext v0 v1 v2 v3; exact lpE69_1 f k n v0 v1 v2 v3))
def r69_1 (f : Nat) : List PV → List (Nat × Ent) → Kont → Option Res
  | [PV.ptr 1824 [], PV.ptr 1825 [], PV.ptr 1826 [],
  PV.sc
    (Value.int IntKind.i64
      v0)], [(1824, Ent.box false 137 (PV.ar 137 v1)), (1825, Ent.box false 137 (PV.ar 137 v2)),
  (1826,
    Ent.box false 137
      (PV.ar 137
        v3))], k => lp69_1 f (fun x0 x1 => k (Ex.exit
  2) (fillS nx69_1 N69 [PV.ptr 1824 [], PV.ptr 1825 []] [(1824, Ent.box false 137 (PV.ar 137 x0)), (1825, Ent.box false 137 (PV.ar 137 x1))])) f v0 v1 v2 v3
  | _, _, _ => none
theorem it69_1 (f : Nat) : items c69_1 x69_1 = [] := by kernel_rfl
theorem i69_1 (f : Nat) : (Item.l c69_1 nm69_1 N69 (r69_1 f)).Ok tau Try.prog 0 := loop_item tabOk F69_ok mixed (x := x69_1) (nm2 := nx69_1) (anOk_items _ _ (by rw [it69_1 f]; intro q hq; cases hq)) fun vs hp k res hr => by
  unfold r69_1 at hr
  split at hr
  · exact ⟨f, 0, (lpE69_1 f _ f _ _ _ _ ).trans hr⟩
  · cases hr
def g69 (f : Nat) (s : List PV) (nl : Bool) (fl : Bool) (b : List PV) (k : Res → Option Res) : Option Res :=
  bif allInt IntKind.u8 b && decide (b.length = 64) then
    lp69_0 f (fun x0_0 x1_0 x2_0 =>
      lp69_1 f (fun x0_1 x1_1 =>
        k (Res.mk (PV.ar 137 x1_1) []
          [])) f (0) x0_0 x1_0 x2_0) f (0) s ([PV.sc (Value.int IntKind.u32 0), PV.sc (Value.int IntKind.u32 0), PV.sc (Value.int IntKind.u32 0), PV.sc (Value.int IntKind.u32 0),
      PV.sc (Value.int IntKind.u32 0), PV.sc (Value.int IntKind.u32 0), PV.sc (Value.int IntKind.u32 0),
      PV.sc
        (Value.int IntKind.u32
          0)]) (pu IntKind.u32
      (spreadP
        (ints
          b))) ([PV.sc (Value.int IntKind.u32 1116352408), PV.sc (Value.int IntKind.u32 1899447441), PV.sc (Value.int IntKind.u32 3049323471), PV.sc (Value.int IntKind.u32 3921009573),
      PV.sc (Value.int IntKind.u32 961987163), PV.sc (Value.int IntKind.u32 1508970993), PV.sc (Value.int IntKind.u32 2453635748), PV.sc (Value.int IntKind.u32 2870763221),
      PV.sc (Value.int IntKind.u32 3624381080), PV.sc (Value.int IntKind.u32 310598401), PV.sc (Value.int IntKind.u32 607225278), PV.sc (Value.int IntKind.u32 1426881987),
      PV.sc (Value.int IntKind.u32 1925078388), PV.sc (Value.int IntKind.u32 2162078206), PV.sc (Value.int IntKind.u32 2614888103), PV.sc (Value.int IntKind.u32 3248222580),
      PV.sc (Value.int IntKind.u32 3835390401), PV.sc (Value.int IntKind.u32 4022224774), PV.sc (Value.int IntKind.u32 264347078), PV.sc (Value.int IntKind.u32 604807628),
      PV.sc (Value.int IntKind.u32 770255983), PV.sc (Value.int IntKind.u32 1249150122), PV.sc (Value.int IntKind.u32 1555081692), PV.sc (Value.int IntKind.u32 1996064986),
      PV.sc (Value.int IntKind.u32 2554220882), PV.sc (Value.int IntKind.u32 2821834349), PV.sc (Value.int IntKind.u32 2952996808), PV.sc (Value.int IntKind.u32 3210313671),
      PV.sc (Value.int IntKind.u32 3336571891), PV.sc (Value.int IntKind.u32 3584528711), PV.sc (Value.int IntKind.u32 113926993), PV.sc (Value.int IntKind.u32 338241895),
      PV.sc (Value.int IntKind.u32 666307205), PV.sc (Value.int IntKind.u32 773529912), PV.sc (Value.int IntKind.u32 1294757372), PV.sc (Value.int IntKind.u32 1396182291),
      PV.sc (Value.int IntKind.u32 1695183700), PV.sc (Value.int IntKind.u32 1986661051), PV.sc (Value.int IntKind.u32 2177026350), PV.sc (Value.int IntKind.u32 2456956037),
      PV.sc (Value.int IntKind.u32 2730485921), PV.sc (Value.int IntKind.u32 2820302411), PV.sc (Value.int IntKind.u32 3259730800), PV.sc (Value.int IntKind.u32 3345764771),
      PV.sc (Value.int IntKind.u32 3516065817), PV.sc (Value.int IntKind.u32 3600352804), PV.sc (Value.int IntKind.u32 4094571909), PV.sc (Value.int IntKind.u32 275423344),
      PV.sc (Value.int IntKind.u32 430227734), PV.sc (Value.int IntKind.u32 506948616), PV.sc (Value.int IntKind.u32 659060556), PV.sc (Value.int IntKind.u32 883997877),
      PV.sc (Value.int IntKind.u32 958139571), PV.sc (Value.int IntKind.u32 1322822218), PV.sc (Value.int IntKind.u32 1537002063), PV.sc (Value.int IntKind.u32 1747873779),
      PV.sc (Value.int IntKind.u32 1955562222), PV.sc (Value.int IntKind.u32 2024104815), PV.sc (Value.int IntKind.u32 2227730452), PV.sc (Value.int IntKind.u32 2361852424),
      PV.sc (Value.int IntKind.u32 2428436474), PV.sc (Value.int IntKind.u32 2756734187), PV.sc (Value.int IntKind.u32 3204031479), PV.sc (Value.int IntKind.u32 3329325298)]) s
  else none
theorem e69 (f : Nat) (s : List PV) (nl : Bool) (fl : Bool) (b : List PV) (k : Res → Option Res) : evFn tau F69 Try.f69 (Try.f69.body.get!) (an69 (r69_0 f) (r69_1 f)) [] 0 [.ar 137 s, .ro 5 nl fl b] [] k = g69 f s nl fl b k := by kernel_rfl
theorem it69 (f : Nat) : items (Try.f69.body.get!) (an69 (r69_0 f) (r69_1 f)) = [.l c69_0 nm69_0 N69 (r69_0 f), .l c69_1 nm69_1 N69 (r69_1 f)] := by kernel_rfl
theorem ia69 (f : Nat) : ∀ q ∈ items (Try.f69.body.get!) (an69 (r69_0 f) (r69_1 f)), q.Ok tau Try.prog 0 := by
  rw [it69 f]; simp only [List.forall_mem_cons, List.not_mem_nil, false_implies, implies_true, and_true]; exact ⟨i69_0 f, i69_1 f⟩
theorem fo69 : Try.prog.funcs[69]? = some Try.f69 := by kernel_rfl
theorem bo69 : Try.f69.body = some (Try.f69.body.get!) := by kernel_rfl
theorem en69 : Enters Try.prog 69 := enters_of fo69 (by kernel_rfl) bo69
end Go.Proofs.Ytodldmomneecpab.Rx

/- The sum, as plain arithmetic on rows of numbers. Own work. -/
namespace Go.Proofs.Ytodldmomneecpab.Rx
open Go
set_option linter.unusedVariables false
set_option maxRecDepth 100000
/-- a row that is filled from its beginning on -/
def fillM (g : Nat → Int) (t : List Int) (i : Nat) : List Int := (List.range i).map g ++ t.drop i
theorem fillM_zero (g : Nat → Int) (t : List Int) : fillM g t 0 = t := by simp [fillM]
theorem fillM_full (g : Nat → Int) (t : List Int) : fillM g t t.length = (List.range t.length).map g := by simp [fillM]
theorem fillM_length (g : Nat → Int) (t : List Int) (i : Nat) (h : i ≤ t.length) : (fillM g t i).length = t.length := by simp [fillM]; omega
theorem fillM_set (g : Nat → Int) (t : List Int) (i : Nat) (h : i < t.length) : (fillM g t i).set i (g i) = fillM g t (i + 1) := by
  rw [fillM, List.set_append_right _ _ (by simp), List.drop_eq_getElem_cons h, List.length_map, List.length_range, Nat.sub_self, List.set_cons_zero]
  simp [fillM, List.range_succ]
theorem fillM_get (g : Nat → Int) (t : List Int) (i : Nat) (h : i < t.length) : (fillM g t i).getD i 0 = t.getD i 0 := by
  simp only [fillM, List.getD_eq_getElem?_getD]
  rw [List.getElem?_append_right (by simp)]
  simp
def kks : List Int := [1116352408, 1899447441, 3049323471, 3921009573, 961987163, 1508970993, 2453635748, 2870763221, 3624381080, 310598401, 607225278, 1426881987, 1925078388, 2162078206, 2614888103, 3248222580, 3835390401, 4022224774, 264347078, 604807628, 770255983, 1249150122, 1555081692, 1996064986, 2554220882, 2821834349, 2952996808, 3210313671, 3336571891, 3584528711, 113926993, 338241895, 666307205, 773529912, 1294757372, 1396182291, 1695183700, 1986661051, 2177026350, 2456956037, 2730485921, 2820302411, 3259730800, 3345764771, 3516065817, 3600352804, 4094571909, 275423344, 430227734, 506948616, 659060556, 883997877, 958139571, 1322822218, 1537002063, 1747873779, 1955562222, 2024104815, 2227730452, 2361852424, 2428436474, 2756734187, 3204031479, 3329325298]
def iv : List Int := [1779033703, 3144134277, 1013904242, 2773480762, 1359893119, 2600822924, 528734635, 1541459225]
def xW (k w h e f g : Int) : Int := ww (ww (ww (ww (h + bitI .xor .u32 (bitI .xor .u32 (rr e 6) (rr e 11)) (rr e 25)) + bitI .xor .u32 (bitI .and .u32 e f) (bitI .and .u32 (bitI .xor .u32 (Int.ofNat (2 ^ IntKind.u32.bits - Nat.succ 0)) e) g)) + k) + w)
def yW (a b c : Int) : Int := ww (bitI .xor .u32 (bitI .xor .u32 (rr a 2) (rr a 13)) (rr a 22) + bitI .xor .u32 (bitI .xor .u32 (bitI .and .u32 a b) (bitI .and .u32 a c)) (bitI .and .u32 b c))
def rnd (k w : Int) (t : List Int) : List Int :=
  [ww (xW k w (t.getD 7 0) (t.getD 4 0) (t.getD 5 0) (t.getD 6 0) + yW (t.getD 0 0) (t.getD 1 0) (t.getD 2 0)), t.getD 0 0, t.getD 1 0, t.getD 2 0,
    ww (t.getD 3 0 + xW k w (t.getD 7 0) (t.getD 4 0) (t.getD 5 0) (t.getD 6 0)), t.getD 4 0, t.getD 5 0, t.getD 6 0]
def rnds (W s : List Int) : Nat → List Int
  | 0 => s
  | i + 1 => rnd (kks.getD i 0) (W.getD i 0) (rnds W s i)
theorem rnds_length (W s : List Int) (h : s.length = 8) : ∀ i, (rnds W s i).length = 8
  | 0 => h
  | i + 1 => rfl
/-- a piece is taken -/
def addP (s bs : List Int) : List Int := (List.range 8).map fun i => ww ((rnds (spreadP bs) s 64).getD i 0 + s.getD i 0)
theorem addP_length (s bs : List Int) : (addP s bs).length = 8 := by simp [addP]
/-- so many pieces are taken -/
def foldB (s b : List Int) : Nat → List Int
  | 0 => s
  | n + 1 => addP (foldB s b n) ((b.drop (64 * n)).take 64)
theorem foldB_length (s b : List Int) (h : s.length = 8) : ∀ n, (foldB s b n).length = 8
  | 0 => h
  | n + 1 => addP_length _ _
def zs (m : Nat) : Nat := (120 - m % 64) % 64
def lenB (n : Nat) : List Int := (List.range 8).map fun (i : Nat) => IntKind.u8.wrap (shrI .u64 (IntKind.u64.wrap (IntKind.u64.wrap (n : Int) * 8)) (56 - 8 * (i : Int)))
def padP (bs : List Int) : List Int := (bs ++ [128] ++ List.replicate (zs (bs.length + 1)) 0) ++ lenB bs.length
theorem padP_length (bs : List Int) : (padP bs).length = 64 * ((padP bs).length / 64) := by
  have : (padP bs).length = bs.length + 1 + zs (bs.length + 1) + 8 := by simp [padP, lenB]; omega
  rw [this]; unfold zs; omega
def outB (s : List Int) (i : Nat) : Int := IntKind.u8.wrap (shrI .u32 (s.getD (i / 4) 0) (24 - 8 * ((i % 4 : Nat) : Int)))
def outP (s : List Int) : List Int := (List.range 32).map (outB s)
/-- the sum -/
def sumP0 (bs : List Int) : List Int := outP (foldB iv (padP bs) ((padP bs).length / 64))
/-- the same, said so that nothing is reckoned while the bytes aren't known -/
def sumP (bs : List Int) : List Int := bif Nat.ble bs.length bs.length then sumP0 bs else []
theorem sumP_eq (bs : List Int) : sumP bs = sumP0 bs := by
  have : Nat.ble bs.length bs.length = true := by rw [Nat.ble_eq]; exact Nat.le_refl _
  rw [sumP, this]; rfl
theorem sumP_length (bs : List Int) : (sumP bs).length = 32 := by simp [sumP_eq, sumP0, outP]
theorem tmod64 (n : Nat) : (zi n).tmod 64 = ((n % 64 : Nat) : Int) := by
  show (n : Int).tmod 64 = _
  rw [Int.tmod_eq_emod_of_nonneg (by omega)]; omega
end Go.Proofs.Ytodldmomneecpab.Rx

/- A piece is taken: what it makes of a sum on its way. Own work. -/
namespace Go.Proofs.Ytodldmomneecpab.Rx
open Go
set_option linter.unusedVariables false
set_option maxRecDepth 100000
set_option maxHeartbeats 1000000
theorem getD8 {R : List Int} (h : R.length = 8) (j : Nat) (hj : j < 8) : (pu .u32 R).getD j .top = .sc (.int .u32 (R.getD j 0)) := pu_get (by omega)
theorem l69_0 (W s : List Int) (hW : W.length = 64) (hs : s.length = 8) (f : Nat) (k0 : List PV → List PV → List PV → Option Res) (a b : List PV) : ∀ (d i n : Nat), i + d = 64 → d < n →
    lp69_0 f k0 n (i : Int) a b (pu .u32 W) (pu .u32 kks) (pu .u32 (rnds W s i)) = k0 a b (pu .u32 (rnds W s 64))
  | 0, i, n + 1, h, hn => by
      obtain rfl : i = 64 := by omega
      simp only [lp69_0, lpS69_0]
      exact bif_f (by decide)
  | d + 1, i, n + 1, h, hn => by
      have hl := rnds_length W s hs i
      have h1 : IntKind.i64.wrap ((i : Int) + 1) = ((i + 1 : Nat) : Int) := by rw [wrap_i64 (by omega) (by omega)]; omega
      have hk : (pu .u32 kks).getD i .top = .sc (.int .u32 (kks.getD i 0)) := pu_get (by show i < 64; omega)
      have hw : (pu .u32 W).getD i .top = .sc (.int .u32 (W.getD i 0)) := pu_get (by omega)
      have c1 : decide ((i : Int) < 64) = true := by simp; omega
      have c2 : decide (0 ≤ (i : Int)) = true := by simp
      have c3 : decide ((i : Int) < zi 64) = true := by simp; omega
      simp only [lp69_0, lpS69_0, getP_ar, Int.toNat_natCast, h1, hk, hw, c1, c2, c3, getD8 hl 0 (by omega), getD8 hl 1 (by omega), getD8 hl 2 (by omega), getD8 hl 3 (by omega), getD8 hl 4 (by omega), getD8 hl 5 (by omega), getD8 hl 6 (by omega), getD8 hl 7 (by omega), PV.isInt, PV.int, decide_true, Bool.and_true, cond_true]
      exact l69_0 W s hW hs f k0 a b d (i + 1) n (by omega) (by omega)
theorem l69_1 (t s : List Int) (ht : t.length = 8) (hs : s.length = 8) (f : Nat) (k0 : List PV → List PV → Option Res) (a : List PV) : ∀ (d i n : Nat), i + d = 8 → d < n →
    lp69_1 f k0 n (i : Int) (pu .u32 s) a (pu .u32 (fillM (fun j => ww (t.getD j 0 + s.getD j 0)) t i)) = k0 a (pu .u32 (fillM (fun j => ww (t.getD j 0 + s.getD j 0)) t 8))
  | 0, i, n + 1, h, hn => by
      obtain rfl : i = 8 := by omega
      simp only [lp69_1, lpS69_1]
      exact bif_f (by decide)
  | d + 1, i, n + 1, h, hn => by
      have hl : (fillM (fun j => ww (t.getD j 0 + s.getD j 0)) t i).length = 8 := by rw [fillM_length _ _ _ (by omega), ht]
      have h1 : IntKind.i64.wrap ((i : Int) + 1) = ((i + 1 : Nat) : Int) := by rw [wrap_i64 (by omega) (by omega)]; omega
      have c1 : decide ((i : Int) < 8) = true := by simp; omega
      have c2 : decide (0 ≤ (i : Int)) = true := by simp
      have c3 : decide ((i : Int) < zi 8) = true := by simp; omega
      have g1 : ((i : Int)).toNat = i := by omega
      simp only [lp69_1, lpS69_1, getP_ar, g1, h1, c1, c2, c3, getD8 hl i (by omega), getD8 hs i (by omega), fillM_get _ t i (by omega), PV.isInt, PV.int, decide_true, Bool.and_true, cond_true, pu_set]
      have := l69_1 t s ht hs f k0 a d (i + 1) n (by omega) (by omega)
      rw [← fillM_set _ t i (by omega)] at this
      exact this
theorem g69_eq (s bs : List Int) (hs : s.length = 8) (hb : bs.length = 64) (nl fl : Bool) (k : Res → Option Res) : g69 100 (pu .u32 s) nl fl (pu .u8 bs) k = k ⟨.ar 137 (pu .u32 (addP s bs)), [], []⟩ := by
  have hW : (spreadP bs).length = 64 := sched_length bs 48
  have hc : (allInt .u8 (pu .u8 bs) && decide ((pu .u8 bs).length = 64)) = true := by simp [hb]
  refine (bif_t hc).trans ?_
  rw [ints_pu]
  have h0 : ∀ k0 a b, lp69_0 100 k0 100 0 a b (pu .u32 (spreadP bs)) (pu .u32 kks) (pu .u32 s) = k0 a b (pu .u32 (rnds (spreadP bs) s 64)) := fun k0 a b => l69_0 (spreadP bs) s hW hs 100 k0 a b 64 0 100 (by omega) (by omega)
  have ht := rnds_length (spreadP bs) s hs 64
  have h1 : ∀ k0 a, lp69_1 100 k0 100 0 (pu .u32 s) a (pu .u32 (rnds (spreadP bs) s 64)) = k0 a (pu .u32 (addP s bs)) := by
    intro k0 a
    have := l69_1 (rnds (spreadP bs) s 64) s ht hs 100 k0 a 8 0 100 (by omega) (by omega)
    rw [fillM_zero] at this
    refine this.trans ?_
    have h2 := fillM_full (fun j => ww ((rnds (spreadP bs) s 64).getD j 0 + s.getD j 0)) (rnds (spreadP bs) s 64)
    rw [ht] at h2; rw [h2]; rfl
  exact (h0 _ _ _).trans (h1 _ _)
def run69' : List PV → List Ent → (Res → Option Res) → Option Res
  | [.ar 137 s, .ro 5 nl fl b], [], k => bif (allInt .u32 s && decide (s.length = 8)) && (allInt .u8 b && decide (b.length = 64)) then k ⟨.ar 137 (pu .u32 (addP (ints s) (ints b))), [], []⟩ else none
  | _, _, _ => none
def s69' : Sig := { own := [], run := run69' }
theorem ok69' : CallOk tau Try.prog 69 s69' := fn_ok tabOk F69_ok mixed fo69 bo69 _ [] 0 [] run69' (ia69 100) fun xs es k res hr => by
  unfold run69' at hr
  split at hr
  · obtain ⟨hc, hr⟩ := of_bif hr
    simp only [Bool.and_eq_true, decide_eq_true_eq] at hc
    refine ⟨rfl, 0, (e69 100 _ _ _ _ _).trans ?_⟩
    rw [pu_ints hc.2.1, pu_ints hc.1.1, g69_eq _ _ (by simpa using hc.1.2) (by simpa using hc.2.2)]
    exact hr
  · cases hr
end Go.Proofs.Ytodldmomneecpab.Rx

/- What slices.Grow[[]byte,byte] computes. Own work, printed by a program of the worker's own. -/
namespace Go.Proofs.Ytodldmomneecpab.Rx
open Go
set_option linter.unusedVariables false
set_option maxRecDepth 100000
set_option maxHeartbeats 0
def N90 : Nat := 27
noncomputable def F90 : Fns := F0
theorem F90_ok : FnsOk tau Try.prog F90 := F0_ok
def an90 : An := (.seq .leaf (.seq (.seq .leaf (.cond .leaf .leaf)) (.seq (.seq .leaf (.seq .leaf (.cond .leaf .leaf))) (.seq .leaf .leaf))))
def g90 (f : Nat) (n : Int) (k : Res → Option Res) : Option Res :=
  bif decide (n < 0) then
    none
  else bif decide (IntKind.i64.wrap (n - IntKind.i64.wrap (zi 0 - zi 0)) > 0) then
    bif decide (0 ≤ IntKind.i64.wrap (n - IntKind.i64.wrap (zi 0 - zi 0))) && roomy (IntKind.i64.wrap (n - IntKind.i64.wrap (zi 0 - zi 0))).toNat 1 && true then
      k (Res.mk (PV.ow 5 16 [] 0 0 none) []
        [Ent.vec false 5 (IntKind.i64.wrap (n - IntKind.i64.wrap (zi 0 - zi 0)) == 0) (List.replicate (IntKind.i64.wrap (n - IntKind.i64.wrap (zi 0 - zi 0))).toNat (PV.sc (Value.int IntKind.u8 0)))])
    else none
  else k (Res.mk (PV.ro 5 true true []) [] [])
theorem e90 (f : Nat) (n : Int) (k : Res → Option Res) : evFn tau F90 Try.f90 (Try.f90.body.get!) an90 [] 0 [.ro 5 true true [], .sc (.int .i64 n)] [] k = g90 f n k := by kernel_rfl
theorem it90 (f : Nat) : items (Try.f90.body.get!) an90 = [] := by kernel_rfl
theorem ia90 (f : Nat) : ∀ q ∈ items (Try.f90.body.get!) an90, q.Ok tau Try.prog 0 := by
  rw [it90 f]; intro q hq; cases hq
theorem fo90 : Try.prog.funcs[90]? = some Try.f90 := by kernel_rfl
theorem bo90 : Try.f90.body = some (Try.f90.body.get!) := by kernel_rfl
theorem en90 : Enters Try.prog 90 := enters_of fo90 (by kernel_rfl) bo90
def run90 : List PV → List Ent → (Res → Option Res) → Option Res
  | [.ro 5 true true [], .sc (.int .i64 n)], [], k => g90 0 n k
  | _, _, _ => none
def s90 : Sig := { own := [], run := run90 }
theorem ok90 : CallOk tau Try.prog 90 s90 := fn_ok tabOk F90_ok mixed fo90 bo90 an90 [] 0 [] run90 (ia90 0) fun xs es k res hr => by
  unfold run90 at hr
  split at hr
  · exact ⟨rfl, 0, (e90 0 _  _).trans hr⟩
  · cases hr
end Go.Proofs.Ytodldmomneecpab.Rx

/- What slices.Concat[[]byte,byte] computes. Own work, printed by a program of the worker's own. -/
namespace Go.Proofs.Ytodldmomneecpab.Rx
open Go
set_option linter.unusedVariables false
set_option maxRecDepth 100000
set_option maxHeartbeats 0
def N68 : Nat := 36
noncomputable def F68 : Fns := addF 90 s90 F0
theorem F68_ok : FnsOk tau Try.prog F68 := F0_ok.add ok90 en90
noncomputable def c68_0 : Code := subC (Try.f68.body.get!) [1, 1, 0, 1, 0, 0]
def nm68_0 : Nm := [(0, .any), (3, .any), (9, .any), (10, .any), (11, .any)]
def nx68_0 : Nm := [(0, .any), (3, .any)]
def x68_0 : An := (.seq .leaf (.seq (.cond .leaf .leaf) (.seq (.block none (.seq .leaf (.seq .leaf (.seq .leaf (.cond .leaf .leaf))))) .leaf)))
noncomputable def c68_1 : Code := subC (Try.f68.body.get!) [1, 1, 1, 1, 0, 1, 0, 0]
def nm68_1 : Nm := [(6, .own), (25, .any), (26, .any), (27, .any)]
def nx68_1 : Nm := [(6, .any)]
def x68_1 : An := (.seq .leaf (.seq (.cond .leaf .leaf) (.seq (.block none (.seq .leaf .leaf)) .leaf)))
def an68 (r0 : RunL) (r1 : RunL) : An := (.seq .leaf (.seq .leaf (.seq (.seq .leaf (.block none (.sum nm68_0 N68 r0))) (.seq .leaf (.seq (.seq .leaf (.block none (.sum nm68_1 N68 r1))) (.seq .leaf .leaf))))))
def lpS68_0 (f : Nat) (rc : Bool → Bool → List
  PV → Int → Bool → Bool → List
  PV → Int → Int → Option Res) (k0 : Bool → Bool → List
  PV → Int → Option Res) (v0 : Bool) (v1 : Bool) (v2 : List PV) (v3 : Int) (v4 : Bool) (v5 : Bool) (v6 : List PV) (v7 : Int) (v8 : Int) : Option Res :=
  bif decide (v8 < v7) then
    bif decide (0 ≤ v8) && decide (v8 < zi v6.length) && PV.isRo 5 (v6.getD v8.toNat PV.top) && true then
      bif decide (IntKind.i64.wrap (v3 + zi (v6.getD v8.toNat PV.top).els.length) < 0) then
        none
      else rc v0 v1 v2 (IntKind.i64.wrap (v3 + zi (v6.getD v8.toNat PV.top).els.length)) v4 v5 v6 v7 (IntKind.i64.wrap (v8 + 1))
    else none
  else k0 v0 v1 v2 v3
def lp68_0 (f : Nat) (k0 : Bool → Bool → List PV → Int → Option Res) : Nat → Bool → Bool → List PV → Int → Bool → Bool → List PV → Int → Int → Option Res
  | 0, _, _, _, _, _, _, _, _, _ => none
  | n + 1, v0, v1, v2, v3, v4, v5, v6, v7, v8 => lpS68_0 f (lp68_0 f k0 n) k0 v0 v1 v2 v3 v4 v5 v6 v7 v8
theorem lpR68_0 (f : Nat) (k : Kont) (n : Nat) (v0 : Bool) (v1 : Bool) (v2 : List
  PV) (v3 : Int) (v4 : Bool) (v5 : Bool) (v6 : List
  PV) (v7 : Int) (v8 : Int) : evLoop tau 0 nm68_0 (fun s k => ev tau F68 0 0 c68_0 (x68_0 ) s k) (n + 1) (fillS nm68_0 N68 [PV.ro 50 v0 v1 v2, PV.sc (Value.int IntKind.i64 v3), PV.ro 50 v4 v5 v6,
  PV.sc (Value.int IntKind.i64 v7),
  PV.sc
    (Value.int IntKind.i64
      v8)] []) (kNorm tau 0 nx68_0 k) = lpS68_0 f (fun v0 v1 v2 v3 v4 v5 v6 v7 v8 => evLoop tau 0 nm68_0 (fun s k => ev tau F68 0 0 c68_0 (x68_0 ) s k) n (fillS nm68_0 N68 [PV.ro 50 v0 v1 v2,
  PV.sc (Value.int IntKind.i64 v3), PV.ro 50 v4 v5 v6, PV.sc (Value.int IntKind.i64 v7),
  PV.sc
    (Value.int IntKind.i64
      v8)] []) (kNorm tau 0 nx68_0 k)) (fun x0 x1 x2 x3 => k (Ex.exit 0) (fillS nx68_0 N68 [PV.ro 50 x0 x1 x2, PV.sc (Value.int IntKind.i64 x3)] [])) v0 v1 v2 v3 v4 v5 v6 v7 v8 := by kernel_rfl
theorem lpE68_0 (f : Nat) (k : Kont) : ∀ (n : Nat) (v0 : Bool) (v1 : Bool) (v2 : List
  PV) (v3 : Int) (v4 : Bool) (v5 : Bool) (v6 : List
  PV) (v7 : Int) (v8 : Int), evLoop tau 0 nm68_0 (fun s k => ev tau F68 0 0 c68_0 (x68_0 ) s k) n (fillS nm68_0 N68 [PV.ro 50 v0 v1 v2, PV.sc (Value.int IntKind.i64 v3), PV.ro 50 v4 v5 v6,
  PV.sc (Value.int IntKind.i64 v7),
  PV.sc
    (Value.int IntKind.i64
      v8)] []) (kNorm tau 0 nx68_0 k) = lp68_0 f (fun x0 x1 x2 x3 => k (Ex.exit 0) (fillS nx68_0 N68 [PV.ro 50 x0 x1 x2, PV.sc (Value.int IntKind.i64 x3)] [])) n v0 v1 v2 v3 v4 v5 v6 v7 v8
  | 0, _, _, _, _, _, _, _, _, _ => rfl
  | n + 1, v0, v1, v2, v3, v4, v5, v6, v7, v8 => (lpR68_0 f k n v0 v1 v2 v3 v4 v5 v6 v7 v8).trans (congrArg (fun r => lpS68_0 f r (fun x0 x1 x2 x3 => k (Ex.exit
  0) (fillS nx68_0 N68 [PV.ro 50 x0 x1 x2, PV.sc (Value.int IntKind.i64 x3)] [])) v0 v1 v2 v3 v4 v5 v6 v7 v8) (by funext v0 v1 v2 v3 v4 v5 v6 v7 v8; exact lpE68_0 f k n v0 v1 v2 v3 v4 v5 v6 v7 v8))
def r68_0 (f : Nat) : List PV → List (Nat × Ent) → Kont → Option Res
  | [PV.ro 50 v0 v1 v2, PV.sc (Value.int IntKind.i64 v3), PV.ro 50 v4 v5 v6, PV.sc (Value.int IntKind.i64 v7),
  PV.sc (Value.int IntKind.i64 v8)], [], k => lp68_0 f (fun x0 x1 x2 x3 => k (Ex.exit 0) (fillS nx68_0 N68 [PV.ro 50 x0 x1 x2, PV.sc (Value.int IntKind.i64 x3)] [])) f v0 v1 v2 v3 v4 v5 v6 v7 v8
  | _, _, _ => none
theorem it68_0 (f : Nat) : items c68_0 x68_0 = [] := by kernel_rfl
theorem i68_0 (f : Nat) : (Item.l c68_0 nm68_0 N68 (r68_0 f)).Ok tau Try.prog 0 := loop_item tabOk F68_ok mixed (x := x68_0) (nm2 := nx68_0) (anOk_items _ _ (by rw [it68_0 f]; intro q hq; cases hq)) fun vs hp k res hr => by
  unfold r68_0 at hr
  split at hr
  · exact ⟨f, 0, (lpE68_0 f _ f _ _ _ _ _ _ _ _ _ ).trans hr⟩
  · cases hr
def lpS68_1 (f : Nat) (rc : Nat → Bool → Bool → List
  PV → Int → Int → Bool → List
  PV → Option Res) (k0 : Nat → Bool → List PV → Option Res) (v0 : Nat) (v1 : Bool) (v2 : Bool) (v3 : List PV) (v4 : Int) (v5 : Int) (v6 : Bool) (v7 : List PV) : Option Res :=
  bif decide (v5 < v4) then
    bif decide (0 ≤ v5) && decide (v5 < zi v3.length) && PV.isRo 5 (v3.getD v5.toNat PV.top) && true then
      bif roomy (v0 + (v3.getD v5.toNat PV.top).els.length) 1 && true then
        rc (v0 + (v3.getD v5.toNat PV.top).els.length) v1 v2 v3 v4 (IntKind.i64.wrap (v5 + 1)) (v6 && (v3.getD v5.toNat PV.top).els.isEmpty) (List.take v0 v7 ++ (v3.getD v5.toNat PV.top).els)
      else none
    else none
  else k0 v0 v6 v7
def lp68_1 (f : Nat) (k0 : Nat → Bool → List PV → Option Res) : Nat → Nat → Bool → Bool → List PV → Int → Int → Bool → List PV → Option Res
  | 0, _, _, _, _, _, _, _, _ => none
  | n + 1, v0, v1, v2, v3, v4, v5, v6, v7 => lpS68_1 f (lp68_1 f k0 n) k0 v0 v1 v2 v3 v4 v5 v6 v7
theorem lpR68_1 (f : Nat) (k : Kont) (n : Nat) (v0 : Nat) (v1 : Bool) (v2 : Bool) (v3 : List
  PV) (v4 : Int) (v5 : Int) (v6 : Bool) (v7 : List
  PV) : evLoop tau 0 nm68_1 (fun s k => ev tau F68 0 0 c68_1 (x68_1 ) s k) (n + 1) (fillS nm68_1 N68 [PV.ow 5 592 [] 0 v0 none, PV.ro 50 v1 v2 v3, PV.sc (Value.int IntKind.i64 v4),
  PV.sc
    (Value.int IntKind.i64
      v5)] [(592,
    Ent.vec false 5 v6
      v7)]) (kNorm tau 0 nx68_1 k) = lpS68_1 f (fun v0 v1 v2 v3 v4 v5 v6 v7 => evLoop tau 0 nm68_1 (fun s k => ev tau F68 0 0 c68_1 (x68_1 ) s k) n (fillS nm68_1 N68 [PV.ow 5 592 [] 0 v0 none,
  PV.ro 50 v1 v2 v3, PV.sc (Value.int IntKind.i64 v4),
  PV.sc
    (Value.int IntKind.i64
      v5)] [(592,
    Ent.vec false 5 v6
      v7)]) (kNorm tau 0 nx68_1 k)) (fun x0 x1 x2 => k (Ex.exit 2) (fillS nx68_1 N68 [PV.ow 5 592 [] 0 x0 none] [(592, Ent.vec false 5 x1 x2)])) v0 v1 v2 v3 v4 v5 v6 v7 := by kernel_rfl
theorem lpE68_1 (f : Nat) (k : Kont) : ∀ (n : Nat) (v0 : Nat) (v1 : Bool) (v2 : Bool) (v3 : List
  PV) (v4 : Int) (v5 : Int) (v6 : Bool) (v7 : List
  PV), evLoop tau 0 nm68_1 (fun s k => ev tau F68 0 0 c68_1 (x68_1 ) s k) n (fillS nm68_1 N68 [PV.ow 5 592 [] 0 v0 none, PV.ro 50 v1 v2 v3, PV.sc (Value.int IntKind.i64 v4),
  PV.sc
    (Value.int IntKind.i64
      v5)] [(592,
    Ent.vec false 5 v6 v7)]) (kNorm tau 0 nx68_1 k) = lp68_1 f (fun x0 x1 x2 => k (Ex.exit 2) (fillS nx68_1 N68 [PV.ow 5 592 [] 0 x0 none] [(592, Ent.vec false 5 x1 x2)])) n v0 v1 v2 v3 v4 v5 v6 v7
  | 0, _, _, _, _, _, _, _, _ => rfl
  | n + 1, v0, v1, v2, v3, v4, v5, v6, v7 => (lpR68_1 f k n v0 v1 v2 v3 v4 v5 v6 v7).trans (congrArg (fun r => lpS68_1 f r (fun x0 x1 x2 => k (Ex.exit
  2) (fillS nx68_1 N68 [PV.ow 5 592 [] 0 x0 none] [(592, Ent.vec false 5 x1 x2)])) v0 v1 v2 v3 v4 v5 v6 v7) (by funext v0 v1 v2 v3 v4 v5 v6 v7; exact lpE68_1 f k n v0 v1 v2 v3 v4 v5 v6 v7))
def r68_1 (f : Nat) : List PV → List (Nat × Ent) → Kont → Option Res
  | [PV.ow 5 592 [] 0 v0 none, PV.ro 50 v1 v2 v3, PV.sc (Value.int IntKind.i64 v4),
  PV.sc
    (Value.int IntKind.i64
      v5)], [(592, Ent.vec false 5 v6 v7)], k => lp68_1 f (fun x0 x1 x2 => k (Ex.exit 2) (fillS nx68_1 N68 [PV.ow 5 592 [] 0 x0 none] [(592, Ent.vec false 5 x1 x2)])) f v0 v1 v2 v3 v4 v5 v6 v7
  | _, _, _ => none
theorem it68_1 (f : Nat) : items c68_1 x68_1 = [] := by kernel_rfl
theorem i68_1 (f : Nat) : (Item.l c68_1 nm68_1 N68 (r68_1 f)).Ok tau Try.prog 0 := loop_item tabOk F68_ok mixed (x := x68_1) (nm2 := nx68_1) (anOk_items _ _ (by rw [it68_1 f]; intro q hq; cases hq)) fun vs hp k res hr => by
  unfold r68_1 at hr
  split at hr
  · exact ⟨f, 0, (lpE68_1 f _ f _ _ _ _ _ _ _ _ ).trans hr⟩
  · cases hr
def g68 (f : Nat) (nl : Bool) (fl : Bool) (l : List PV) (k : Res → Option Res) : Option Res :=
  lp68_0 f (fun x0_0 x1_0 x2_0 x3_0 =>
    bif decide (x3_0 < 0) then
      none
    else bif decide (IntKind.i64.wrap (x3_0 - IntKind.i64.wrap (zi 0 - zi 0)) > 0) then
      bif decide (0 ≤ IntKind.i64.wrap (x3_0 - IntKind.i64.wrap (zi 0 - zi 0))) && roomy (IntKind.i64.wrap (x3_0 - IntKind.i64.wrap (zi 0 - zi 0))).toNat 1 && true then
        lp68_1 f (fun x0_1 x1_1 x2_1 =>
          k (Res.mk (PV.ow 5 16 [] 0 x0_1 none) []
            [Ent.vec false 5 x1_1
                x2_1])) f (0) x0_0 x1_0 x2_0 (zi
          x2_0.length) (0) (IntKind.i64.wrap (x3_0 - IntKind.i64.wrap (zi 0 - zi 0)) ==
          0) (List.replicate (IntKind.i64.wrap (x3_0 - IntKind.i64.wrap (zi 0 - zi 0))).toNat (PV.sc (Value.int IntKind.u8 0)))
      else none
    else lp68_1 f (fun x0_2 x1_2 x2_2 =>
      k (Res.mk (PV.ow 5 16 [] 0 x0_2 none) [] [Ent.vec false 5 x1_2 x2_2])) f (0) x0_0 x1_0 x2_0 (zi x2_0.length) (0) true ([])) f nl fl l (0) nl fl l (zi l.length) (0)
theorem e68 (f : Nat) (nl : Bool) (fl : Bool) (l : List PV) (k : Res → Option Res) : evFn tau F68 Try.f68 (Try.f68.body.get!) (an68 (r68_0 f) (r68_1 f)) [] 0 [.ro 50 nl fl l] [] k = g68 f nl fl l k := by kernel_rfl
theorem it68 (f : Nat) : items (Try.f68.body.get!) (an68 (r68_0 f) (r68_1 f)) = [.l c68_0 nm68_0 N68 (r68_0 f), .l c68_1 nm68_1 N68 (r68_1 f)] := by kernel_rfl
theorem ia68 (f : Nat) : ∀ q ∈ items (Try.f68.body.get!) (an68 (r68_0 f) (r68_1 f)), q.Ok tau Try.prog 0 := by
  rw [it68 f]; simp only [List.forall_mem_cons, List.not_mem_nil, false_implies, implies_true, and_true]; exact ⟨i68_0 f, i68_1 f⟩
theorem fo68 : Try.prog.funcs[68]? = some Try.f68 := by kernel_rfl
theorem bo68 : Try.f68.body = some (Try.f68.body.get!) := by kernel_rfl
theorem en68 : Enters Try.prog 68 := enters_of fo68 (by kernel_rfl) bo68
end Go.Proofs.Ytodldmomneecpab.Rx

/- Rows that are put one behind the other (slices.Concat). Own work. -/
namespace Go.Proofs.Ytodldmomneecpab.Rx
open Go
set_option linter.unusedVariables false
set_option maxRecDepth 100000
def flat (l : List PV) : List PV := (l.map PV.els).flatten
@[simp] theorem flat_nil : flat [] = [] := rfl
@[simp] theorem flat_cons (p : PV) (l : List PV) : flat (p :: l) = p.els ++ flat l := by simp [flat]
theorem flat_append (a b : List PV) : flat (a ++ b) = flat a ++ flat b := by simp [flat]
theorem take_succ_getD (l : List PV) (i : Nat) (h : i < l.length) : l.take (i + 1) = l.take i ++ [l.getD i .top] := by
  rw [List.take_add_one, List.getD_eq_getElem?_getD, List.getElem?_eq_getElem h]; rfl
theorem drop_getD (l : List PV) (i : Nat) (h : i < l.length) : l.drop i = l.getD i .top :: l.drop (i + 1) := by
  rw [List.drop_eq_getElem_cons h, List.getD_eq_getElem?_getD, List.getElem?_eq_getElem h]; rfl
theorem flat_take (l : List PV) (i : Nat) (h : i < l.length) : flat (l.take (i + 1)) = flat (l.take i) ++ (l.getD i .top).els := by
  rw [take_succ_getD l i h, flat_append, flat_cons, flat_nil, List.append_nil]
theorem flat_take_le (l : List PV) (i : Nat) : (flat (l.take i)).length ≤ (flat l).length := by
  have : flat l = flat (l.take i) ++ flat (l.drop i) := by rw [← flat_append, List.take_append_drop]
  rw [this, List.length_append]; omega
theorem isRo_getD {l : List PV} (h : l.all (PV.isRo 5) = true) {i : Nat} (hi : i < l.length) : (l.getD i .top).isRo 5 = true := by
  rw [List.getD_eq_getElem?_getD, List.getElem?_eq_getElem hi]
  exact List.all_eq_true.1 h _ (List.getElem_mem hi)
theorem isEmpty_app {α : Type} (a b : List α) : (a ++ b).isEmpty = (a.isEmpty && b.isEmpty) := by cases a <;> rfl
theorem l68_0 (f : Nat) (k0 : Bool → Bool → List PV → Int → Option Res) (a b : Bool) (c : List PV) (nl fl : Bool) (l : List PV) (hl : l.all (PV.isRo 5) = true) (hs : (flat l).length ≤ 140737488355328) (hn : l.length ≤ 140737488355328) : ∀ (d i n : Nat), i + d = l.length → d < n →
    lp68_0 f k0 n a b c ((flat (l.take i)).length : Int) nl fl l (l.length : Int) (i : Int) = k0 a b c ((flat l).length : Int)
  | 0, i, n + 1, h, hd => by
      obtain rfl : i = l.length := by omega
      simp only [lp68_0, lpS68_0]
      exact (bif_f (by simp)).trans (by rw [List.take_length])
  | d + 1, i, n + 1, h, hd => by
      have hle := flat_take_le l (i + 1)
      have hadd : (flat (l.take (i + 1))).length = (flat (l.take i)).length + (l.getD i .top).els.length := by rw [flat_take l i (by omega), List.length_append]
      have h1 : IntKind.i64.wrap ((i : Int) + 1) = ((i + 1 : Nat) : Int) := by rw [wrap_i64 (by omega) (by omega)]; omega
      have h2 : IntKind.i64.wrap (((flat (l.take i)).length : Int) + ((l.getD i .top).els.length : Int)) = ((flat (l.take (i + 1))).length : Int) := by rw [wrap_i64 (by omega) (by omega)]; omega
      simp only [lp68_0, lpS68_0, zi, Int.toNat_natCast, h1, h2]
      refine (bif_t (by simp <;> omega)).trans ?_
      refine (bif_t (by rw [isRo_getD hl (by omega)]; simp; omega)).trans ?_
      refine (bif_f (by simp <;> omega)).trans ?_
      exact l68_0 f k0 a b c nl fl l hl hs hn d (i + 1) n (by omega) (by omega)
theorem l68_1 (f : Nat) (k0 : Nat → Bool → List PV → Option Res) (nl fl : Bool) (l : List PV) (hl : l.all (PV.isRo 5) = true) (hs : (flat l).length ≤ 140737488355328) (hn : l.length ≤ 140737488355328) : ∀ (d i n : Nat) (z : Bool) (v : List PV), i + d = l.length → d < n → v.take (flat (l.take i)).length = flat (l.take i) → (d = 0 → v = flat l) →
    lp68_1 f k0 n (flat (l.take i)).length nl fl l (l.length : Int) (i : Int) z v = k0 (flat l).length (z && (flat (l.drop i)).isEmpty) (flat l)
  | 0, i, n + 1, z, v, h, hd, hv, h0 => by
      obtain rfl : i = l.length := by omega
      simp only [lp68_1, lpS68_1]
      refine (bif_f (by simp)).trans ?_
      rw [List.take_length, h0 rfl, List.drop_length]; simp
  | d + 1, i, n + 1, z, v, h, hd, hv, h0 => by
      have hle := flat_take_le l (i + 1)
      have hadd : (flat (l.take (i + 1))).length = (flat (l.take i)).length + (l.getD i .top).els.length := by rw [flat_take l i (by omega), List.length_append]
      have h1 : IntKind.i64.wrap ((i : Int) + 1) = ((i + 1 : Nat) : Int) := by rw [wrap_i64 (by omega) (by omega)]; omega
      simp only [lp68_1, lpS68_1, zi, Int.toNat_natCast, h1, hv]
      refine (bif_t (by simp <;> omega)).trans ?_
      refine (bif_t (by rw [isRo_getD hl (by omega)]; simp; omega)).trans ?_
      refine (bif_t (by simp only [roomy, Bool.and_true, decide_eq_true_eq]; omega)).trans ?_
      have := l68_1 f k0 nl fl l hl hs hn d (i + 1) n (z && (l.getD i .top).els.isEmpty) (flat (l.take (i + 1))) (by omega) (by omega) (List.take_length) (fun hd0 => by rw [show i + 1 = l.length from by omega, List.take_length])
      rw [hadd, flat_take l i (by omega)] at this
      rw [this, drop_getD l i (by omega), flat_cons, isEmpty_app, Bool.and_assoc]
def run68' : List PV → List Ent → (Res → Option Res) → Option Res
  | [.ro 50 nl fl l], [], k => bif l.all (PV.isRo 5) && (decide ((flat l).length ≤ 140737488355328) && decide (l.length ≤ 140737488355328)) then k ⟨.ow 5 16 [] 0 (flat l).length none, [], [.vec false 5 (flat l).isEmpty (flat l)]⟩ else none
  | _, _, _ => none
def s68' : Sig := { own := [], run := run68' }
theorem g68_eq (nl fl : Bool) (l : List PV) (k : Res → Option Res) (hl : l.all (PV.isRo 5) = true) (hs : (flat l).length ≤ 140737488355328) (hn : l.length ≤ 140737488355328) :
    g68 (l.length + 1) nl fl l k = k ⟨.ow 5 16 [] 0 (flat l).length none, [], [.vec false 5 (flat l).isEmpty (flat l)]⟩ := by
  have h0 := l68_0 (l.length + 1) (fun x0_0 x1_0 x2_0 x3_0 =>
    bif decide (x3_0 < 0) then
      none
    else bif decide (IntKind.i64.wrap (x3_0 - IntKind.i64.wrap (zi 0 - zi 0)) > 0) then
      bif decide (0 ≤ IntKind.i64.wrap (x3_0 - IntKind.i64.wrap (zi 0 - zi 0))) && roomy (IntKind.i64.wrap (x3_0 - IntKind.i64.wrap (zi 0 - zi 0))).toNat 1 && true then
        lp68_1 (l.length + 1) (fun x0_1 x1_1 x2_1 =>
          k (Res.mk (PV.ow 5 16 [] 0 x0_1 none) []
            [Ent.vec false 5 x1_1
                x2_1])) (l.length + 1) (0) x0_0 x1_0 x2_0 (zi
          x2_0.length) (0) (IntKind.i64.wrap (x3_0 - IntKind.i64.wrap (zi 0 - zi 0)) ==
          0) (List.replicate (IntKind.i64.wrap (x3_0 - IntKind.i64.wrap (zi 0 - zi 0))).toNat (PV.sc (Value.int IntKind.u8 0)))
      else none
    else lp68_1 (l.length + 1) (fun x0_2 x1_2 x2_2 =>
      k (Res.mk (PV.ow 5 16 [] 0 x0_2 none) [] [Ent.vec false 5 x1_2 x2_2])) (l.length + 1) (0) x0_0 x1_0 x2_0 (zi x2_0.length) (0) true ([])) nl fl l nl fl l hl hs hn l.length 0 (l.length + 1) (by omega) (by omega)
  refine h0.trans ?_
  have hw : IntKind.i64.wrap (((flat l).length : Int) - IntKind.i64.wrap (zi 0 - zi 0)) = ((flat l).length : Int) := by
    have : IntKind.i64.wrap (zi 0 - zi 0) = 0 := by decide
    rw [this, wrap_i64 (by omega) (by omega)]; omega
  simp only [hw]
  refine (bif_f (by simp <;> omega)).trans ?_
  cases he : (flat l).isEmpty with
  | true =>
    have he' : flat l = [] := by simpa using he
    refine (bif_f (by simp [he'])).trans ?_
    have := l68_1 (l.length + 1) (fun x0_2 x1_2 x2_2 => k (Res.mk (PV.ow 5 16 [] 0 x0_2 none) [] [Ent.vec false 5 x1_2 x2_2])) nl fl l hl hs hn l.length 0 (l.length + 1) true [] (by omega) (by omega) (by simp) (fun _ => he'.symm)
    refine this.trans ?_
    simp [he']
  | false =>
    have he' : flat l ≠ [] := by simpa using he
    have hpos : 0 < (flat l).length := List.length_pos_iff.2 he'
    have hl0 : l.length ≠ 0 := by
      intro h; rw [List.length_eq_zero_iff] at h; subst h; simp at he'
    refine (bif_t (by simp <;> omega)).trans ?_
    refine (bif_t (by simp [roomy] <;> omega)).trans ?_
    have := l68_1 (l.length + 1) (fun x0_2 x1_2 x2_2 => k (Res.mk (PV.ow 5 16 [] 0 x0_2 none) [] [Ent.vec false 5 x1_2 x2_2])) nl fl l hl hs hn l.length 0 (l.length + 1) (((flat l).length : Int) == 0) (List.replicate (((flat l).length : Int)).toNat (PV.sc (Value.int IntKind.u8 0))) (by omega) (by omega) (by simp) (fun h => absurd h hl0)
    refine this.trans ?_
    have hz : (((flat l).length : Int) == 0) = false := by simp [he']
    rw [hz]; rfl
theorem ok68' : CallOk tau Try.prog 68 s68' := fn_ok2 tabOk F68_ok mixed fo68 bo68 (fun n => an68 (r68_0 n) (r68_1 n)) [] 0 [] run68' (fun n => ia68 n) fun xs es k res hr => by
  unfold run68' at hr
  split at hr
  · rename_i nl fl l
    obtain ⟨hc, hr⟩ := of_bif hr
    simp only [Bool.and_eq_true, decide_eq_true_eq] at hc
    refine ⟨rfl, l.length + 1, 0, (e68 _ _ _ _ _).trans ?_⟩
    rw [g68_eq _ _ _ _ hc.1 hc.2.1 hc.2.2]; exact hr
  · cases hr
end Go.Proofs.Ytodldmomneecpab.Rx

/- What comitia/sha.padded computes. Own work, printed by a program of the worker's own. -/
namespace Go.Proofs.Ytodldmomneecpab.Rx
open Go
set_option linter.unusedVariables false
set_option maxRecDepth 100000
set_option maxHeartbeats 0
def N67 : Nat := 33
noncomputable def F67 : Fns := F0
theorem F67_ok : FnsOk tau Try.prog F67 := F0_ok
noncomputable def c67_1 : Code := subC (Try.f67.body.get!) [1, 0, 1, 1, 1, 1, 0, 1, 0, 0]
def nm67_1 : Nm := [(0, .any), (3, .any), (19, .any)]
def nx67_1 : Nm := [(0, .any)]
def x67_1 : An := (.seq .leaf (.seq (.cond .leaf .leaf) (.seq (.block none (.seq .leaf .leaf)) .leaf)))
noncomputable def c67_0 : Code := subC (Try.f67.body.get!) [1, 0]
def nm67_0 : Nm := [(0, .any), (3, .any)]
def nx67_0 : Nm := [(2, .any)]
def x67_0 (r1 : RunL) : An := (.seq .leaf (.seq .leaf (.seq .leaf (.seq (.seq .leaf (.cond (.seq .leaf .leaf) .leaf)) (.seq (.seq .leaf (.block none (.sum nm67_1 N67 r1))) (.seq .leaf .leaf))))))
def an67 (r0 : RunS) (r1 : RunL) : An := (.seq .leaf (.ssum nm67_0 N67 (x67_0 r1) r0))
def lpS67_1 (f : Nat) (rc : Nat → Int → Int → Bool → List PV → Option Res) (k0 : Nat → Bool → List PV → Option Res) (v0 : Nat) (v1 : Int) (v2 : Int) (v3 : Bool) (v4 : List PV) : Option Res :=
  bif decide (v2 < 8) then
    bif decide (0 ≤ IntKind.i64.wrap (56 - IntKind.i64.wrap (8 * v2))) && true then
      bif roomy (v0 + 1) 1 && true then
        rc (v0 +
          1) v1 (IntKind.i64.wrap
          (v2 + 1)) (v3 && false) (List.take v0 v4 ++ [PV.sc (Value.int IntKind.u8 (IntKind.u8.wrap (shrI IntKind.u64 v1 (IntKind.i64.wrap (56 - IntKind.i64.wrap (8 * v2))))))])
      else none
    else none
  else k0 v0 v3 v4
def lp67_1 (f : Nat) (k0 : Nat → Bool → List PV → Option Res) : Nat → Nat → Int → Int → Bool → List PV → Option Res
  | 0, _, _, _, _, _ => none
  | n + 1, v0, v1, v2, v3, v4 => lpS67_1 f (lp67_1 f k0 n) k0 v0 v1 v2 v3 v4
theorem lpR67_1 (f : Nat) (k : Kont) (n : Nat) (v0 : Nat) (v1 : Int) (v2 : Int) (v3 : Bool) (v4 : List
  PV) : evLoop tau 1 nm67_1 (fun s k => ev tau F67 1 0 c67_1 (x67_1 ) s k) (n + 1) (fillS nm67_1 N67 [PV.ow 5 545 [] 0 v0 none, PV.sc (Value.int IntKind.u64 v1),
  PV.sc
    (Value.int IntKind.i64
      v2)] [(0, Ent.dead),
  (545,
    Ent.vec false 5 v3
      v4)]) (kNorm tau 1 nx67_1 k) = lpS67_1 f (fun v0 v1 v2 v3 v4 => evLoop tau 1 nm67_1 (fun s k => ev tau F67 1 0 c67_1 (x67_1 ) s k) n (fillS nm67_1 N67 [PV.ow 5 545 [] 0 v0 none,
  PV.sc (Value.int IntKind.u64 v1),
  PV.sc
    (Value.int IntKind.i64
      v2)] [(0, Ent.dead),
  (545,
    Ent.vec false 5 v3
      v4)]) (kNorm tau 1 nx67_1 k)) (fun x0 x1 x2 => k (Ex.exit 0) (fillS nx67_1 N67 [PV.ow 5 545 [] 0 x0 none] [(0, Ent.dead), (545, Ent.vec false 5 x1 x2)])) v0 v1 v2 v3 v4 := by kernel_rfl
theorem lpE67_1 (f : Nat) (k : Kont) : ∀ (n : Nat) (v0 : Nat) (v1 : Int) (v2 : Int) (v3 : Bool) (v4 : List
  PV), evLoop tau 1 nm67_1 (fun s k => ev tau F67 1 0 c67_1 (x67_1 ) s k) n (fillS nm67_1 N67 [PV.ow 5 545 [] 0 v0 none, PV.sc (Value.int IntKind.u64 v1),
  PV.sc
    (Value.int IntKind.i64
      v2)] [(0, Ent.dead),
  (545,
    Ent.vec false 5 v3
      v4)]) (kNorm tau 1 nx67_1 k) = lp67_1 f (fun x0 x1 x2 => k (Ex.exit 0) (fillS nx67_1 N67 [PV.ow 5 545 [] 0 x0 none] [(0, Ent.dead), (545, Ent.vec false 5 x1 x2)])) n v0 v1 v2 v3 v4
  | 0, _, _, _, _, _ => rfl
  | n + 1, v0, v1, v2, v3, v4 => (lpR67_1 f k n v0 v1 v2 v3 v4).trans (congrArg (fun r => lpS67_1 f r (fun x0 x1 x2 => k (Ex.exit
  0) (fillS nx67_1 N67 [PV.ow 5 545 [] 0 x0 none] [(0, Ent.dead), (545, Ent.vec false 5 x1 x2)])) v0 v1 v2 v3 v4) (by funext v0 v1 v2 v3 v4; exact lpE67_1 f k n v0 v1 v2 v3 v4))
def r67_1 (f : Nat) : List PV → List (Nat × Ent) → Kont → Option Res
  | [PV.ow 5 545 [] 0 v0 none, PV.sc (Value.int IntKind.u64 v1),
  PV.sc
    (Value.int IntKind.i64
      v2)], [(0, Ent.dead),
  (545, Ent.vec false 5 v3 v4)], k => lp67_1 f (fun x0 x1 x2 => k (Ex.exit 0) (fillS nx67_1 N67 [PV.ow 5 545 [] 0 x0 none] [(0, Ent.dead), (545, Ent.vec false 5 x1 x2)])) f v0 v1 v2 v3 v4
  | _, _, _ => none
theorem it67_1 (f : Nat) : items c67_1 x67_1 = [] := by kernel_rfl
theorem i67_1 (f : Nat) : (Item.l c67_1 nm67_1 N67 (r67_1 f)).Ok tau Try.prog 1 := loop_item tabOk F67_ok mixed (x := x67_1) (nm2 := nx67_1) (anOk_items _ _ (by rw [it67_1 f]; intro q hq; cases hq)) fun vs hp k res hr => by
  unfold r67_1 at hr
  split at hr
  · exact ⟨f, 0, (lpE67_1 f _ f _ _ _ _ _ ).trans hr⟩
  · cases hr
def lpS67_0 (f : Nat) (rc : Nat → Int → Bool → List PV → Option Res) (k0 : Nat → Bool → List PV → Option Res) (v0 : Nat) (v1 : Int) (v2 : Bool) (v3 : List PV) : Option Res :=
  bif (zi v0).tmod 64 != 56 then
    bif roomy (v0 + 1) 1 && true then
      rc (v0 + 1) v1 (v2 && false) (List.take v0 v3 ++ [PV.sc (Value.int IntKind.u8 0)])
    else none
  else lp67_1 f (fun x0_0 x1_0 x2_0 =>
    k0 x0_0 x1_0 x2_0) f v0 v1 (0) v2 v3
def lp67_0 (f : Nat) (k0 : Nat → Bool → List PV → Option Res) : Nat → Nat → Int → Bool → List PV → Option Res
  | 0, _, _, _, _ => none
  | n + 1, v0, v1, v2, v3 => lpS67_0 f (lp67_0 f k0 n) k0 v0 v1 v2 v3
theorem lpR67_0 (f : Nat) (k : Kont) (n : Nat) (v0 : Nat) (v1 : Int) (v2 : Bool) (v3 : List
  PV) : evScope tau 1 nm67_0 (hasLabel c67_0) (fun l s k => evFrom tau F67 1 0 c67_0 (x67_0 (r67_1 f)) l s k) (n + 1) 0 (fillS nm67_0 N67 [PV.ow 5 545 [] 0 v0 none,
  PV.sc
    (Value.int IntKind.u64
      v1)] [(0, Ent.dead),
  (545,
    Ent.vec false 5 v2
      v3)]) (kNorm tau 1 nx67_0 k) = lpS67_0 f (fun v0 v1 v2 v3 => evScope tau 1 nm67_0 (hasLabel c67_0) (fun l s k => evFrom tau F67 1 0 c67_0 (x67_0 (r67_1 f)) l s k) n 0 (fillS nm67_0 N67 [PV.ow 5 545
    [] 0 v0 none,
  PV.sc
    (Value.int IntKind.u64
      v1)] [(0, Ent.dead),
  (545,
    Ent.vec false 5 v2 v3)]) (kNorm tau 1 nx67_0 k)) (fun x0 x1 x2 => k Ex.ret (fillS nx67_0 N67 [PV.ow 5 545 [] 0 x0 none] [(0, Ent.dead), (545, Ent.vec false 5 x1 x2)])) v0 v1 v2 v3 := by kernel_rfl
theorem lpE67_0 (f : Nat) (k : Kont) : ∀ (n : Nat) (v0 : Nat) (v1 : Int) (v2 : Bool) (v3 : List
  PV), evScope tau 1 nm67_0 (hasLabel c67_0) (fun l s k => evFrom tau F67 1 0 c67_0 (x67_0 (r67_1 f)) l s k) n 0 (fillS nm67_0 N67 [PV.ow 5 545 [] 0 v0 none,
  PV.sc
    (Value.int IntKind.u64
      v1)] [(0, Ent.dead),
  (545, Ent.vec false 5 v2 v3)]) (kNorm tau 1 nx67_0 k) = lp67_0 f (fun x0 x1 x2 => k Ex.ret (fillS nx67_0 N67 [PV.ow 5 545 [] 0 x0 none] [(0, Ent.dead), (545, Ent.vec false 5 x1 x2)])) n v0 v1 v2 v3
  | 0, _, _, _, _ => rfl
  | n + 1, v0, v1, v2, v3 => (lpR67_0 f k n v0 v1 v2 v3).trans (congrArg (fun r => lpS67_0 f r (fun x0 x1 x2 => k Ex.ret (fillS nx67_0 N67 [PV.ow 5 545 [] 0 x0
    none] [(0, Ent.dead), (545, Ent.vec false 5 x1 x2)])) v0 v1 v2 v3) (by funext v0 v1 v2 v3; exact lpE67_0 f k n v0 v1 v2 v3))
def r67_0 (f : Nat) : Nat → List PV → List (Nat × Ent) → Kont → Option Res
  | 0, [PV.ow 5 545 [] 0 v0 none,
  PV.sc
    (Value.int IntKind.u64
      v1)], [(0, Ent.dead),
  (545, Ent.vec false 5 v2 v3)], k => lp67_0 f (fun x0 x1 x2 => k Ex.ret (fillS nx67_0 N67 [PV.ow 5 545 [] 0 x0 none] [(0, Ent.dead), (545, Ent.vec false 5 x1 x2)])) f v0 v1 v2 v3
  | _, _, _, _ => none
theorem it67_0 (f : Nat) : items c67_0 (x67_0 (r67_1 f)) = [.l c67_1 nm67_1 N67 (r67_1 f)] := by kernel_rfl
theorem i67_0 (f : Nat) : (Item.s c67_0 nm67_0 N67 (r67_0 f)).Ok tau Try.prog 1 := scope_item tabOk F67_ok mixed (x := (x67_0 (r67_1 f))) (nm2 := nx67_0) (anOk_items _ _ (by rw [it67_0 f]; simp only [List.forall_mem_cons, List.not_mem_nil, false_implies, implies_true, and_true]; exact i67_1 f)) fun l vs hp k res hr => by
  unfold r67_0 at hr
  split at hr
  · exact ⟨f, 0, (lpE67_0 f _ f _ _ _ _ ).trans hr⟩
  · cases hr
def g67 (f : Nat) (nl : Bool) (l : List PV) (n : Nat) (k : Res → Option Res) : Option Res :=
  bif roomy (n + 1) 1 && true then
    bif (zi (n + 1)).tmod 64 != 56 then
      bif roomy (n + 1 + 1) 1 && true then
        lp67_0 f (fun x0_1 x1_1 x2_1 =>
          k (Res.mk (PV.ow 5 16 [] 0 x0_1 none) [Ent.dead]
            [Ent.vec false 5 x1_1
                x2_1])) f (n + 1 +
          1) (IntKind.u64.wrap (IntKind.u64.wrap (zi n) * 8)) (nl && false && false) (List.take (n + 1) (List.take n l ++ [PV.sc (Value.int IntKind.u8 128)]) ++ [PV.sc (Value.int IntKind.u8 0)])
      else none
    else lp67_1 f (fun x0_2 x1_2 x2_2 =>
      k (Res.mk (PV.ow 5 16 [] 0 x0_2 none) [Ent.dead]
        [Ent.vec false 5 x1_2 x2_2])) f (n + 1) (IntKind.u64.wrap (IntKind.u64.wrap (zi n) * 8)) (0) (nl && false) (List.take n l ++ [PV.sc (Value.int IntKind.u8 128)])
  else none
theorem e67 (f : Nat) (nl : Bool) (l : List PV) (n : Nat) (k : Res → Option Res) : evFn tau F67 Try.f67 (Try.f67.body.get!) (an67 (r67_0 f) (r67_1 f)) [] 0 [.ow 5 0 [] 0 n none] [.vec false 5 nl l] k = g67 f nl l n k := by kernel_rfl
theorem it67 (f : Nat) : items (Try.f67.body.get!) (an67 (r67_0 f) (r67_1 f)) = [.s c67_0 nm67_0 N67 (r67_0 f), .l c67_1 nm67_1 N67 (r67_1 f)] := by kernel_rfl
theorem ia67 (f : Nat) : ∀ q ∈ items (Try.f67.body.get!) (an67 (r67_0 f) (r67_1 f)), q.Ok tau Try.prog 1 := by
  rw [it67 f]; simp only [List.forall_mem_cons, List.not_mem_nil, false_implies, implies_true, and_true]; exact ⟨i67_0 f, i67_1 f⟩
theorem fo67 : Try.prog.funcs[67]? = some Try.f67 := by kernel_rfl
theorem bo67 : Try.f67.body = some (Try.f67.body.get!) := by kernel_rfl
theorem en67 : Enters Try.prog 67 := enters_of fo67 (by kernel_rfl) bo67
end Go.Proofs.Ytodldmomneecpab.Rx

/- Bytes with what a sum lays behind them. Own work. -/
namespace Go.Proofs.Ytodldmomneecpab.Rx
open Go
set_option linter.unusedVariables false
set_option maxRecDepth 100000
set_option maxHeartbeats 1000000
def lenG (n : Int) (i : Nat) : Int := IntKind.u8.wrap (shrI .u64 n (56 - 8 * (i : Int)))
theorem l67_1 (f : Nat) (N : Int) (k0 : Nat → Bool → List PV → Option Res) (L : List Int) (hL : L.length ≤ 140737488355300) : ∀ (d i n : Nat) (z : Bool), i + d = 8 → d < n → (d = 0 → z = false) →
    lp67_1 f k0 n (L.length + i) N (i : Int) z (pu .u8 (L ++ (List.range i).map (lenG N))) = k0 (L.length + 8) false (pu .u8 (L ++ (List.range 8).map (lenG N)))
  | 0, i, n + 1, z, h, hn, hz => by
      obtain rfl : i = 8 := by omega
      simp only [lp67_1, lpS67_1]
      rw [hz rfl]
      exact bif_f (by decide)
  | d + 1, i, n + 1, z, h, hn, hz => by
      have h1 : IntKind.i64.wrap ((i : Int) + 1) = ((i + 1 : Nat) : Int) := by rw [wrap_i64 (by omega) (by omega)]; omega
      have h8 : IntKind.i64.wrap (8 * (i : Int)) = 8 * (i : Int) := wrap_i64 (by omega) (by omega)
      have h9 : IntKind.i64.wrap (56 - 8 * (i : Int)) = 56 - 8 * (i : Int) := wrap_i64 (by omega) (by omega)
      have c1 : decide ((i : Int) < 8) = true := by simp; omega
      have c2 : decide (0 ≤ 56 - 8 * (i : Int)) = true := by simp; omega
      have c3 : roomy (L.length + i + 1) 1 = true := by simp [roomy]; omega
      have hlen : (L ++ (List.range i).map (lenG N)).length = L.length + i := by simp
      simp only [lp67_1, lpS67_1, h1, h8, h9, c1, c2, c3, Bool.and_true, cond_true, pu_take, Bool.and_false]
      rw [List.take_of_length_le (by omega)]
      have := l67_1 f N k0 L hL d (i + 1) n false (by omega) (by omega) (fun _ => rfl)
      rw [List.range_succ, List.map_append, ← List.append_assoc, pu_append] at this
      exact this
/-- noughts, until a piece is left with room for the length alone -/
theorem l67_0 (f : Nat) (N : Int) (k0 : Nat → Bool → List PV → Option Res) (hf : 9 ≤ f) : ∀ (d n : Nat) (L : List Int) (z : Bool), zs L.length = d → d < n → L.length + d ≤ 140737488355200 →
    lp67_0 f k0 n L.length N z (pu .u8 L) = lp67_1 f k0 f (L.length + d) N 0 (z && decide (d = 0)) (pu .u8 (L ++ List.replicate d 0))
  | 0, n + 1, L, z, hd, hn, hL => by
      simp only [lp67_0, lpS67_0, tmod64]
      refine (bif_f (by simp [zs] at hd ⊢; omega)).trans ?_
      simp
  | d + 1, n + 1, L, z, hd, hn, hL => by
      have hlt : d + 1 < 64 := by rw [← hd]; unfold zs; omega
      have c3 : roomy (L.length + 1) 1 = true := by simp [roomy]; omega
      simp only [lp67_0, lpS67_0, tmod64, c3, Bool.and_true, cond_true, pu_take, Bool.and_false]
      refine (bif_t (by simp [zs] at hd ⊢; omega)).trans ?_
      rw [List.take_of_length_le (Nat.le_refl _)]
      have := l67_0 f N k0 hf d n (L ++ [0]) false (by simp [zs] at hd ⊢; omega) (by omega) (by simp; omega)
      simp only [List.length_append, List.length_cons, List.length_nil, Nat.zero_add, pu_append] at this
      refine this.trans ?_
      rw [show L.length + 1 + d = L.length + (d + 1) from by omega, List.replicate_succ]
      simp
theorem g67_eq (nl : Bool) (bs : List Int) (hb : bs.length ≤ 140737488355000) (k : Res → Option Res) : g67 100 nl (pu .u8 bs) bs.length k = k ⟨.ow 5 16 [] 0 (padP bs).length none, [.dead], [.vec false 5 false (pu .u8 (padP bs))]⟩ := by
  have c1 : (roomy (bs.length + 1) 1 && true) = true := by simp [roomy]; omega
  have c2 : (roomy (bs.length + 1 + 1) 1 && true) = true := by simp [roomy]; omega
  have hlen : (padP bs).length = bs.length + 1 + zs (bs.length + 1) + 8 := by simp [padP, lenB]; omega
  have hz : zs (bs.length + 1) < 64 := by unfold zs; omega
  refine (bif_t c1).trans ?_
  rw [tmod64, pu_take, List.take_of_length_le (Nat.le_refl _)]
  have fin : ∀ z, lp67_1 100 (fun x0_2 x1_2 x2_2 => k (Res.mk (PV.ow 5 16 [] 0 x0_2 none) [Ent.dead] [Ent.vec false 5 x1_2 x2_2])) 100 (bs.length + 1 + zs (bs.length + 1)) (IntKind.u64.wrap (IntKind.u64.wrap (zi bs.length) * 8)) 0 z (pu .u8 (bs ++ [128] ++ List.replicate (zs (bs.length + 1)) 0)) = k ⟨.ow 5 16 [] 0 (padP bs).length none, [.dead], [.vec false 5 false (pu .u8 (padP bs))]⟩ := by
    intro z
    have := l67_1 100 (IntKind.u64.wrap (IntKind.u64.wrap (zi bs.length) * 8)) (fun x0_2 x1_2 x2_2 => k (Res.mk (PV.ow 5 16 [] 0 x0_2 none) [Ent.dead] [Ent.vec false 5 x1_2 x2_2])) (bs ++ [128] ++ List.replicate (zs (bs.length + 1)) 0) (by simp; omega) 8 0 100 z (by omega) (by omega) (by omega)
    have hl2 : (bs ++ [128] ++ List.replicate (zs (bs.length + 1)) 0).length = bs.length + 1 + zs (bs.length + 1) := by simp; omega
    rw [hl2] at this
    simp only [List.range_zero, List.map_nil, List.append_nil, Nat.add_zero] at this
    rw [hlen]
    exact this
  cases hc : (((((bs.length + 1) % 64 : Nat) : Int)) != 56) with
  | true =>
    refine (bif_t rfl).trans ((bif_t c2).trans ?_)
    have hc' : ((bs.length + 1) % 64 : Nat) ≠ 56 := by simp at hc; omega
    have hz1 : zs (bs.length + 1 + 1) + 1 = zs (bs.length + 1) := by unfold zs; omega
    have := l67_0 100 (IntKind.u64.wrap (IntKind.u64.wrap (zi bs.length) * 8)) (fun x0_1 x1_1 x2_1 => k (Res.mk (PV.ow 5 16 [] 0 x0_1 none) [Ent.dead] [Ent.vec false 5 x1_1 x2_1])) (by omega) (zs (bs.length + 1 + 1)) 100 (bs ++ [128] ++ [0]) (nl && false && false) (by simp) (by unfold zs; omega) (by simp; omega)
    have h0 : pu .u8 (bs ++ [128] ++ [0]) = List.take (bs.length + 1) (pu .u8 bs ++ [PV.sc (Value.int IntKind.u8 128)]) ++ [PV.sc (Value.int IntKind.u8 0)] := by
      rw [List.take_of_length_le (by simp)]; simp
    rw [h0] at this
    simp only [List.length_append, List.length_cons, List.length_nil, Nat.zero_add] at this
    refine this.trans ?_
    have h3 : bs ++ [128] ++ [0] ++ List.replicate (zs (bs.length + 1 + 1)) 0 = bs ++ [128] ++ List.replicate (zs (bs.length + 1)) 0 := by
      rw [← hz1, List.replicate_succ]; simp
    rw [h3, show bs.length + 1 + 1 + zs (bs.length + 1 + 1) = bs.length + 1 + zs (bs.length + 1) from by omega]
    exact fin _
  | false =>
    refine (bif_f rfl).trans ?_
    have hc' : ((bs.length + 1) % 64 : Nat) = 56 := by simp at hc; omega
    have hz0 : zs (bs.length + 1) = 0 := by unfold zs; omega
    have := fin (nl && false)
    rw [hz0] at this
    simpa using this
def run67' : List PV → List Ent → (Res → Option Res) → Option Res
  | [.ow 5 0 [] 0 n none], [.vec false 5 nl l], k => bif allInt .u8 l && (decide (n = l.length) && decide (l.length ≤ 140737488355000)) then k ⟨.ow 5 16 [] 0 (padP (ints l)).length none, [.dead], [.vec false 5 false (pu .u8 (padP (ints l)))]⟩ else none
  | _, _, _ => none
def s67' : Sig := { own := [true], run := run67' }
theorem ok67' : CallOk tau Try.prog 67 s67' := fn_ok tabOk F67_ok mixed fo67 bo67 _ [] 1 [true] run67' (ia67 100) fun xs es k res hr => by
  unfold run67' at hr
  split at hr
  · obtain ⟨hc, hr⟩ := of_bif hr
    simp only [Bool.and_eq_true, decide_eq_true_eq] at hc
    refine ⟨rfl, 0, (e67 100 _ _ _ _).trans ?_⟩
    rw [hc.2.1, pu_ints hc.1, pu_length, g67_eq _ _ (by simpa using hc.2.2)]
    exact hr
  · cases hr
end Go.Proofs.Ytodldmomneecpab.Rx

/- What comitia/sha.begun computes. Own work, printed by a program of the worker's own. -/
namespace Go.Proofs.Ytodldmomneecpab.Rx
open Go
set_option linter.unusedVariables false
set_option maxRecDepth 100000
set_option maxHeartbeats 0
def N66 : Nat := 2
noncomputable def F66 : Fns := F0
theorem F66_ok : FnsOk tau Try.prog F66 := F0_ok
def an66 : An := (.seq .leaf (.seq .leaf .leaf))
def g66 (f : Nat)  (k : Res → Option Res) : Option Res :=
  k (Res.mk
    (PV.ar 137
      [PV.sc (Value.int IntKind.u32 1779033703), PV.sc (Value.int IntKind.u32 3144134277), PV.sc (Value.int IntKind.u32 1013904242), PV.sc (Value.int IntKind.u32 2773480762),
        PV.sc (Value.int IntKind.u32 1359893119), PV.sc (Value.int IntKind.u32 2600822924), PV.sc (Value.int IntKind.u32 528734635), PV.sc (Value.int IntKind.u32 1541459225)])
    [] [])
theorem e66 (f : Nat)  (k : Res → Option Res) : evFn tau F66 Try.f66 (Try.f66.body.get!) an66 [] 0 [] [] k = g66 f  k := by kernel_rfl
theorem it66 (f : Nat) : items (Try.f66.body.get!) an66 = [] := by kernel_rfl
theorem ia66 (f : Nat) : ∀ q ∈ items (Try.f66.body.get!) an66, q.Ok tau Try.prog 0 := by
  rw [it66 f]; intro q hq; cases hq
theorem fo66 : Try.prog.funcs[66]? = some Try.f66 := by kernel_rfl
theorem bo66 : Try.f66.body = some (Try.f66.body.get!) := by kernel_rfl
theorem en66 : Enters Try.prog 66 := enters_of fo66 (by kernel_rfl) bo66
def run66 : List PV → List Ent → (Res → Option Res) → Option Res
  | [], [], k => g66 0  k
  | _, _, _ => none
def s66 : Sig := { own := [], run := run66 }
theorem ok66 : CallOk tau Try.prog 66 s66 := fn_ok tabOk F66_ok mixed fo66 bo66 an66 [] 0 [] run66 (ia66 0) fun xs es k res hr => by
  unfold run66 at hr
  split at hr
  · exact ⟨rfl, 0, (e66 0  _).trans hr⟩
  · cases hr
end Go.Proofs.Ytodldmomneecpab.Rx

/- What comitia/sha.Sum computes. Own work, printed by a program of the worker's own. -/
namespace Go.Proofs.Ytodldmomneecpab.Rx
open Go
set_option linter.unusedVariables false
set_option maxRecDepth 100000
set_option maxHeartbeats 0
def N42 : Nat := 37
noncomputable def F42 : Fns := addF 66 s66 (addF 67 s67' (addF 68 s68' (addF 69 s69' F0)))
theorem F42_ok : FnsOk tau Try.prog F42 := (((F0_ok.add ok69' en69).add ok68' en68).add ok67' en67).add ok66 en66
noncomputable def c42_0 : Code := subC (Try.f42.body.get!) [1, 1, 0, 1, 0, 0]
def nm42_0 : Nm := [(2, .any), (3, .any), (4, .ro)]
def nx42_0 : Nm := [(2, .any), (3, .any)]
def x42_0 : An := (.seq (.seq .leaf (.cond .leaf .leaf)) (.seq (.block none .leaf) .leaf))
noncomputable def c42_1 : Code := subC (Try.f42.body.get!) [1, 1, 1, 1, 0, 1, 0, 0]
def nm42_1 : Nm := [(2, .any), (3, .any), (5, .any), (20, .any)]
def nx42_1 : Nm := [(2, .any), (5, .any)]
def x42_1 : An := (.seq .leaf (.seq (.cond .leaf .leaf) (.seq (.block none (.seq .leaf .leaf)) .leaf)))
def an42 (r0 : RunL) (r1 : RunL) : An := (.seq .leaf (.seq .leaf (.seq (.seq .leaf (.block none (.sum nm42_0 N42 r0))) (.seq .leaf (.seq (.seq .leaf (.block none (.sum nm42_1 N42 r1))) (.seq .leaf .leaf))))))
def lpS42_0 (f : Nat) (rc : List PV → List PV → List PV → Option Res) (k0 : List PV → List PV → Option Res) (v0 : List PV) (v1 : List PV) (v2 : List PV) : Option Res :=
  bif decide (zi v0.length > 0) then
    bif decide (64 ≤ v0.length) && true then
      bif allInt IntKind.u32 v2 && decide (v2.length = 8) && (allInt IntKind.u8 (List.take 64 v0) && decide ((List.take 64 v0).length = 64)) then
        bif decide (64 ≤ v0.length) && decide (v0.length ≤ v0.length) && true then
          rc (List.drop 64 (List.take v0.length v0)) v1 (pu IntKind.u32 (addP (ints v2) (ints (List.take 64 v0))))
        else none
      else none
    else none
  else k0 v1 v2
def lp42_0 (f : Nat) (k0 : List PV → List PV → Option Res) : Nat → List PV → List PV → List PV → Option Res
  | 0, _, _, _ => none
  | n + 1, v0, v1, v2 => lpS42_0 f (lp42_0 f k0 n) k0 v0 v1 v2
theorem lpR42_0 (f : Nat) (k : Kont) (n : Nat) (v0 : List
  PV) (v1 : List
  PV) (v2 : List
  PV) : evLoop tau 0 nm42_0 (fun s k => ev tau F42 0 0 c42_0 (x42_0 ) s k) (n + 1) (fillS nm42_0 N42 [PV.ptr 608 [], PV.ptr 609 [],
  PV.ro 5 false false
    v0] [(608, Ent.box false 29 (PV.ar 29 v1)),
  (609,
    Ent.box false 137
      (PV.ar 137
        v2))]) (kNorm tau 0 nx42_0 k) = lpS42_0 f (fun v0 v1 v2 => evLoop tau 0 nm42_0 (fun s k => ev tau F42 0 0 c42_0 (x42_0 ) s k) n (fillS nm42_0 N42 [PV.ptr 608 [], PV.ptr 609 [],
  PV.ro 5 false false
    v0] [(608, Ent.box false 29 (PV.ar 29 v1)),
  (609,
    Ent.box false 137
      (PV.ar 137
        v2))]) (kNorm tau 0 nx42_0 k)) (fun x0 x1 => k (Ex.exit
  0) (fillS nx42_0 N42 [PV.ptr 608 [], PV.ptr 609 []] [(608, Ent.box false 29 (PV.ar 29 x0)), (609, Ent.box false 137 (PV.ar 137 x1))])) v0 v1 v2 := by kernel_rfl
theorem lpE42_0 (f : Nat) (k : Kont) : ∀ (n : Nat) (v0 : List
  PV) (v1 : List
  PV) (v2 : List
  PV), evLoop tau 0 nm42_0 (fun s k => ev tau F42 0 0 c42_0 (x42_0 ) s k) n (fillS nm42_0 N42 [PV.ptr 608 [], PV.ptr 609 [],
  PV.ro 5 false false
    v0] [(608, Ent.box false 29 (PV.ar 29 v1)),
  (609,
    Ent.box false 137
      (PV.ar 137
        v2))]) (kNorm tau 0 nx42_0 k) = lp42_0 f (fun x0 x1 => k (Ex.exit
  0) (fillS nx42_0 N42 [PV.ptr 608 [], PV.ptr 609 []] [(608, Ent.box false 29 (PV.ar 29 x0)), (609, Ent.box false 137 (PV.ar 137 x1))])) n v0 v1 v2
  | 0, _, _, _ => rfl
  | n + 1, v0, v1, v2 => (lpR42_0 f k n v0 v1 v2).trans (congrArg (fun r => lpS42_0 f r (fun x0 x1 => k (Ex.exit
  0) (fillS nx42_0 N42 [PV.ptr 608 [], PV.ptr 609 []] [(608, Ent.box false 29 (PV.ar 29 x0)), (609, Ent.box false 137 (PV.ar 137 x1))])) v0 v1 v2) (by funext v0 v1 v2; exact lpE42_0 f k n v0 v1 v2))
def r42_0 (f : Nat) : List PV → List (Nat × Ent) → Kont → Option Res
  | [PV.ptr 608 [], PV.ptr 609 [],
  PV.ro 5 false false
    v0], [(608, Ent.box false 29 (PV.ar 29 v1)),
  (609,
    Ent.box false 137
      (PV.ar 137
        v2))], k => lp42_0 f (fun x0 x1 => k (Ex.exit 0) (fillS nx42_0 N42 [PV.ptr 608 [], PV.ptr 609 []] [(608, Ent.box false 29 (PV.ar 29 x0)), (609, Ent.box false 137 (PV.ar 137 x1))])) f v0 v1 v2
  | _, _, _ => none
theorem it42_0 (f : Nat) : items c42_0 x42_0 = [] := by kernel_rfl
theorem i42_0 (f : Nat) : (Item.l c42_0 nm42_0 N42 (r42_0 f)).Ok tau Try.prog 0 := loop_item tabOk F42_ok mixed (x := x42_0) (nm2 := nx42_0) (anOk_items _ _ (by rw [it42_0 f]; intro q hq; cases hq)) fun vs hp k res hr => by
  unfold r42_0 at hr
  split at hr
  · exact ⟨f, 0, (lpE42_0 f _ f _ _ _ ).trans hr⟩
  · cases hr
def lpS42_1 (f : Nat) (rc : Int → List PV → List PV → List PV → Option Res) (k0 : List PV → List PV → Option Res) (v0 : Int) (v1 : List PV) (v2 : List PV) (v3 : List PV) : Option Res :=
  bif decide (v0 < 32) then
    bif decide (0 ≤ IntKind.i64.wrap (v0.tdiv 4)) && decide (IntKind.i64.wrap (v0.tdiv 4) < zi 8) && true then
      bif PV.isInt IntKind.u32 (getP (PV.ar 137 v2) [(IntKind.i64.wrap (v0.tdiv 4)).toNat]) && true then
        bif decide (0 ≤ IntKind.i64.wrap (24 - IntKind.i64.wrap (8 * v0.tmod 4))) && true then
          bif decide (0 ≤ v0) && decide (v0 < zi 32) && true then
            rc (IntKind.i64.wrap
              (v0 +
                1)) v1 v2 (v3.set v0.toNat
              (PV.sc
                (Value.int IntKind.u8
                  (IntKind.u8.wrap (shrI IntKind.u32 (getP (PV.ar 137 v2) [(IntKind.i64.wrap (v0.tdiv 4)).toNat]).int (IntKind.i64.wrap (24 - IntKind.i64.wrap (8 * v0.tmod 4))))))))
          else none
        else none
      else none
    else none
  else k0 v1 v3
def lp42_1 (f : Nat) (k0 : List PV → List PV → Option Res) : Nat → Int → List PV → List PV → List PV → Option Res
  | 0, _, _, _, _ => none
  | n + 1, v0, v1, v2, v3 => lpS42_1 f (lp42_1 f k0 n) k0 v0 v1 v2 v3
theorem lpR42_1 (f : Nat) (k : Kont) (n : Nat) (v0 : Int) (v1 : List
  PV) (v2 : List
  PV) (v3 : List
  PV) : evLoop tau 0 nm42_1 (fun s k => ev tau F42 0 0 c42_1 (x42_1 ) s k) (n + 1) (fillS nm42_1 N42 [PV.ptr 608 [], PV.ptr 609 [], PV.ptr 610 [],
  PV.sc
    (Value.int IntKind.i64
      v0)] [(608, Ent.box false 29 (PV.ar 29 v1)), (609, Ent.box false 137 (PV.ar 137 v2)),
  (610,
    Ent.box false 29
      (PV.ar 29
        v3))]) (kNorm tau 0 nx42_1 k) = lpS42_1 f (fun v0 v1 v2 v3 => evLoop tau 0 nm42_1 (fun s k => ev tau F42 0 0 c42_1 (x42_1 ) s k) n (fillS nm42_1 N42 [PV.ptr 608 [], PV.ptr 609 [],
  PV.ptr 610 [],
  PV.sc
    (Value.int IntKind.i64
      v0)] [(608, Ent.box false 29 (PV.ar 29 v1)), (609, Ent.box false 137 (PV.ar 137 v2)),
  (610,
    Ent.box false 29
      (PV.ar 29
        v3))]) (kNorm tau 0 nx42_1 k)) (fun x0 x1 => k (Ex.exit
  2) (fillS nx42_1 N42 [PV.ptr 608 [], PV.ptr 609 []] [(608, Ent.box false 29 (PV.ar 29 x0)), (609, Ent.box false 29 (PV.ar 29 x1))])) v0 v1 v2 v3 := by kernel_rfl
theorem lpE42_1 (f : Nat) (k : Kont) : ∀ (n : Nat) (v0 : Int) (v1 : List
  PV) (v2 : List
  PV) (v3 : List
  PV), evLoop tau 0 nm42_1 (fun s k => ev tau F42 0 0 c42_1 (x42_1 ) s k) n (fillS nm42_1 N42 [PV.ptr 608 [], PV.ptr 609 [], PV.ptr 610 [],
  PV.sc
    (Value.int IntKind.i64
      v0)] [(608, Ent.box false 29 (PV.ar 29 v1)), (609, Ent.box false 137 (PV.ar 137 v2)),
  (610,
    Ent.box false 29
      (PV.ar 29
        v3))]) (kNorm tau 0 nx42_1 k) = lp42_1 f (fun x0 x1 => k (Ex.exit
  2) (fillS nx42_1 N42 [PV.ptr 608 [], PV.ptr 609 []] [(608, Ent.box false 29 (PV.ar 29 x0)), (609, Ent.box false 29 (PV.ar 29 x1))])) n v0 v1 v2 v3
  | 0, _, _, _, _ => rfl
  | n + 1, v0, v1, v2, v3 => (lpR42_1 f k n v0 v1 v2 v3).trans (congrArg (fun r => lpS42_1 f r (fun x0 x1 => k (Ex.exit
  2) (fillS nx42_1 N42 [PV.ptr 608 [],
  PV.ptr 609 []] [(608, Ent.box false 29 (PV.ar 29 x0)), (609, Ent.box false 29 (PV.ar 29 x1))])) v0 v1 v2 v3) (by funext v0 v1 v2 v3; exact lpE42_1 f k n v0 v1 v2 v3))
def r42_1 (f : Nat) : List PV → List (Nat × Ent) → Kont → Option Res
  | [PV.ptr 608 [], PV.ptr 609 [], PV.ptr 610 [],
  PV.sc
    (Value.int IntKind.i64
      v0)], [(608, Ent.box false 29 (PV.ar 29 v1)), (609, Ent.box false 137 (PV.ar 137 v2)),
  (610,
    Ent.box false 29
      (PV.ar 29
        v3))], k => lp42_1 f (fun x0 x1 => k (Ex.exit 2) (fillS nx42_1 N42 [PV.ptr 608 [], PV.ptr 609 []] [(608, Ent.box false 29 (PV.ar 29 x0)), (609, Ent.box false 29 (PV.ar 29 x1))])) f v0 v1 v2 v3
  | _, _, _ => none
theorem it42_1 (f : Nat) : items c42_1 x42_1 = [] := by kernel_rfl
theorem i42_1 (f : Nat) : (Item.l c42_1 nm42_1 N42 (r42_1 f)).Ok tau Try.prog 0 := loop_item tabOk F42_ok mixed (x := x42_1) (nm2 := nx42_1) (anOk_items _ _ (by rw [it42_1 f]; intro q hq; cases hq)) fun vs hp k res hr => by
  unfold r42_1 at hr
  split at hr
  · exact ⟨f, 0, (lpE42_1 f _ f _ _ _ _ ).trans hr⟩
  · cases hr
def g42 (f : Nat) (nl : Bool) (fl : Bool) (l : List PV) (k : Res → Option Res) : Option Res :=
  bif l.all (PV.isRo 5) && (decide ((flat l).length ≤ 140737488355328) && decide (l.length ≤ 140737488355328)) then
    bif allInt IntKind.u8 (flat l) && (decide ((flat l).length = (flat l).length) && decide ((flat l).length ≤ 140737488355000)) then
      lp42_0 f (fun x0_0 x1_0 =>
        lp42_1 f (fun x0_1 x1_1 =>
          k (Res.mk (PV.ar 29 x1_1) []
            [])) f (0) x0_0 x1_0 ([PV.sc (Value.int IntKind.u8 0), PV.sc (Value.int IntKind.u8 0), PV.sc (Value.int IntKind.u8 0), PV.sc (Value.int IntKind.u8 0), PV.sc (Value.int IntKind.u8 0),
          PV.sc (Value.int IntKind.u8 0), PV.sc (Value.int IntKind.u8 0), PV.sc (Value.int IntKind.u8 0), PV.sc (Value.int IntKind.u8 0), PV.sc (Value.int IntKind.u8 0),
          PV.sc (Value.int IntKind.u8 0), PV.sc (Value.int IntKind.u8 0), PV.sc (Value.int IntKind.u8 0), PV.sc (Value.int IntKind.u8 0), PV.sc (Value.int IntKind.u8 0),
          PV.sc (Value.int IntKind.u8 0), PV.sc (Value.int IntKind.u8 0), PV.sc (Value.int IntKind.u8 0), PV.sc (Value.int IntKind.u8 0), PV.sc (Value.int IntKind.u8 0),
          PV.sc (Value.int IntKind.u8 0), PV.sc (Value.int IntKind.u8 0), PV.sc (Value.int IntKind.u8 0), PV.sc (Value.int IntKind.u8 0), PV.sc (Value.int IntKind.u8 0),
          PV.sc (Value.int IntKind.u8 0), PV.sc (Value.int IntKind.u8 0), PV.sc (Value.int IntKind.u8 0), PV.sc (Value.int IntKind.u8 0), PV.sc (Value.int IntKind.u8 0),
          PV.sc (Value.int IntKind.u8 0),
          PV.sc
            (Value.int IntKind.u8
              0)])) f (List.take (padP (ints (flat l))).length
        (pu IntKind.u8
          (padP
            (ints
              (flat
                l))))) ([PV.sc (Value.int IntKind.u8 0), PV.sc (Value.int IntKind.u8 0), PV.sc (Value.int IntKind.u8 0), PV.sc (Value.int IntKind.u8 0), PV.sc (Value.int IntKind.u8 0),
        PV.sc (Value.int IntKind.u8 0), PV.sc (Value.int IntKind.u8 0), PV.sc (Value.int IntKind.u8 0), PV.sc (Value.int IntKind.u8 0), PV.sc (Value.int IntKind.u8 0), PV.sc (Value.int IntKind.u8 0),
        PV.sc (Value.int IntKind.u8 0), PV.sc (Value.int IntKind.u8 0), PV.sc (Value.int IntKind.u8 0), PV.sc (Value.int IntKind.u8 0), PV.sc (Value.int IntKind.u8 0), PV.sc (Value.int IntKind.u8 0),
        PV.sc (Value.int IntKind.u8 0), PV.sc (Value.int IntKind.u8 0), PV.sc (Value.int IntKind.u8 0), PV.sc (Value.int IntKind.u8 0), PV.sc (Value.int IntKind.u8 0), PV.sc (Value.int IntKind.u8 0),
        PV.sc (Value.int IntKind.u8 0), PV.sc (Value.int IntKind.u8 0), PV.sc (Value.int IntKind.u8 0), PV.sc (Value.int IntKind.u8 0), PV.sc (Value.int IntKind.u8 0), PV.sc (Value.int IntKind.u8 0),
        PV.sc (Value.int IntKind.u8 0), PV.sc (Value.int IntKind.u8 0),
        PV.sc
          (Value.int IntKind.u8
            0)]) ([PV.sc (Value.int IntKind.u32 1779033703), PV.sc (Value.int IntKind.u32 3144134277), PV.sc (Value.int IntKind.u32 1013904242), PV.sc (Value.int IntKind.u32 2773480762),
        PV.sc (Value.int IntKind.u32 1359893119), PV.sc (Value.int IntKind.u32 2600822924), PV.sc (Value.int IntKind.u32 528734635), PV.sc (Value.int IntKind.u32 1541459225)])
    else none
  else none
theorem e42 (f : Nat) (nl : Bool) (fl : Bool) (l : List PV) (k : Res → Option Res) : evFn tau F42 Try.f42 (Try.f42.body.get!) (an42 (r42_0 f) (r42_1 f)) [] 0 [.ro 50 nl fl l] [] k = g42 f nl fl l k := by kernel_rfl
theorem it42 (f : Nat) : items (Try.f42.body.get!) (an42 (r42_0 f) (r42_1 f)) = [.l c42_0 nm42_0 N42 (r42_0 f), .l c42_1 nm42_1 N42 (r42_1 f)] := by kernel_rfl
theorem ia42 (f : Nat) : ∀ q ∈ items (Try.f42.body.get!) (an42 (r42_0 f) (r42_1 f)), q.Ok tau Try.prog 0 := by
  rw [it42 f]; simp only [List.forall_mem_cons, List.not_mem_nil, false_implies, implies_true, and_true]; exact ⟨i42_0 f, i42_1 f⟩
theorem fo42 : Try.prog.funcs[42]? = some Try.f42 := by kernel_rfl
theorem bo42 : Try.f42.body = some (Try.f42.body.get!) := by kernel_rfl
theorem en42 : Enters Try.prog 42 := enters_of fo42 (by kernel_rfl) bo42
end Go.Proofs.Ytodldmomneecpab.Rx

/- The sum of parts. Own work. -/
namespace Go.Proofs.Ytodldmomneecpab.Rx
open Go
set_option linter.unusedVariables false
set_option maxRecDepth 100000
set_option maxHeartbeats 1000000
theorem iv_length : iv.length = 8 := rfl
theorem l42_0 (P : List Int) (m : Nat) (hP : P.length = 64 * m) (f : Nat) (k0 : List PV → List PV → Option Res) (a : List PV) : ∀ (d i n : Nat), i + d = m → d < n →
    lp42_0 f k0 n (pu .u8 (P.drop (64 * i))) a (pu .u32 (foldB iv P i)) = k0 a (pu .u32 (foldB iv P m))
  | 0, i, n + 1, h, hn => by
      obtain rfl : i = m := by omega
      have hl : (P.drop (64 * i)).length = 0 := by rw [List.length_drop]; omega
      simp only [lp42_0, lpS42_0, pu_length, hl]
      exact bif_f (by decide)
  | d + 1, i, n + 1, h, hn => by
      have hl : 64 ≤ (P.drop (64 * i)).length := by rw [List.length_drop]; omega
      have hf := foldB_length iv P iv_length i
      simp only [lp42_0, lpS42_0, pu_length, pu_take, allInt_pu, hf, ints_pu]
      refine (bif_t (by simp; omega)).trans ?_
      refine (bif_t (by simp at hl ⊢; omega)).trans ?_
      refine (bif_t (by simp at hl ⊢; omega)).trans ?_
      refine (bif_t (by simp at hl ⊢; omega)).trans ?_
      rw [List.take_of_length_le (Nat.le_refl _), pu_drop, List.drop_drop]
      have := l42_0 P m hP f k0 a d (i + 1) n (by omega) (by omega)
      rw [show 64 * i + 64 = 64 * (i + 1) from by omega]
      exact this
theorem l42_1 (s : List Int) (hs : s.length = 8) (f : Nat) (k0 : List PV → List PV → Option Res) (a : List PV) (t : List Int) (ht : t.length = 32) : ∀ (d i n : Nat), i + d = 32 → d < n →
    lp42_1 f k0 n (i : Int) a (pu .u32 s) (pu .u8 (fillM (outB s) t i)) = k0 a (pu .u8 (outP s))
  | 0, i, n + 1, h, hn => by
      obtain rfl : i = 32 := by omega
      simp only [lp42_1, lpS42_1]
      refine (bif_f (by decide)).trans ?_
      have := fillM_full (outB s) t
      rw [ht] at this; rw [this]; rfl
  | d + 1, i, n + 1, h, hn => by
      have e1 : ((i : Int)).tdiv 4 = ((i / 4 : Nat) : Int) := by rw [Int.tdiv_eq_ediv_of_nonneg (by omega)]; omega
      have e2 : ((i : Int)).tmod 4 = ((i % 4 : Nat) : Int) := by rw [Int.tmod_eq_emod_of_nonneg (by omega)]; omega
      have h1 : IntKind.i64.wrap ((i : Int) + 1) = ((i + 1 : Nat) : Int) := by rw [wrap_i64 (by omega) (by omega)]; omega
      have h2 : IntKind.i64.wrap ((i / 4 : Nat) : Int) = ((i / 4 : Nat) : Int) := wrap_i64 (by omega) (by omega)
      have h3 : IntKind.i64.wrap (8 * ((i % 4 : Nat) : Int)) = 8 * ((i % 4 : Nat) : Int) := wrap_i64 (by omega) (by omega)
      have h4 : IntKind.i64.wrap (24 - 8 * ((i % 4 : Nat) : Int)) = 24 - 8 * ((i % 4 : Nat) : Int) := wrap_i64 (by omega) (by omega)
      have g1 : ((i : Int)).toNat = i := by omega
      have g2 : (((i / 4 : Nat) : Int)).toNat = i / 4 := by omega
      have c0 : decide ((i : Int) < 32) = true := by simp; omega
      have c1 : (decide (0 ≤ ((i / 4 : Nat) : Int)) && decide (((i / 4 : Nat) : Int) < zi 8) && true) = true := by simp; omega
      have c2 : (decide (0 ≤ 24 - 8 * ((i % 4 : Nat) : Int)) && true) = true := by simp; omega
      have c3 : (decide (0 ≤ (i : Int)) && decide ((i : Int) < zi 32) && true) = true := by simp; omega
      simp only [lp42_1, lpS42_1, e1, e2, h1, h2, h3, h4, g1, g2, getP_ar, c0, c1, c2, c3, getD8 hs (i / 4) (by omega), PV.isInt, PV.int, decide_true, Bool.and_true, cond_true, pu_set]
      have := l42_1 s hs f k0 a t ht d (i + 1) n (by omega) (by omega)
      rw [← fillM_set (outB s) t i (by omega)] at this
      exact this
theorem g42_eq (nl fl : Bool) (l : List PV) (k : Res → Option Res) (hl : l.all (PV.isRo 5) = true) (hn : l.length ≤ 140737488355328) (hi : allInt .u8 (flat l) = true) (hs : (flat l).length ≤ 140737488355000) :
    g42 ((padP (ints (flat l))).length / 64 + 100) nl fl l k = k ⟨.ar 29 (pu .u8 (sumP (ints (flat l)))), [], []⟩ := by
  refine (bif_t (by simp only [hl, Bool.true_and, Bool.and_eq_true, decide_eq_true_eq]; omega)).trans ?_
  refine (bif_t (by simp only [hi, Bool.true_and, Bool.and_eq_true, decide_eq_true_eq, true_and]; exact hs)).trans ?_
  rw [pu_take, List.take_of_length_le (Nat.le_refl _)]
  generalize hP : padP (ints (flat l)) = P
  have hlen : P.length = 64 * (P.length / 64) := by rw [← hP]; exact padP_length _
  have h0 : ∀ k0 a, lp42_0 (P.length / 64 + 100) k0 (P.length / 64 + 100) (pu .u8 P) a (pu .u32 iv) = k0 a (pu .u32 (foldB iv P (P.length / 64))) := fun k0 a => l42_0 P (P.length / 64) hlen _ k0 a (P.length / 64) 0 _ (by omega) (by omega)
  have h1 : ∀ k0 a s, s.length = 8 → lp42_1 (P.length / 64 + 100) k0 (P.length / 64 + 100) 0 a (pu .u32 s) (pu .u8 (List.replicate 32 0)) = k0 a (pu .u8 (outP s)) := by
    intro k0 a s hs
    have := l42_1 s hs (P.length / 64 + 100) k0 a (List.replicate 32 0) (by simp) 32 0 (P.length / 64 + 100) (by omega) (by omega)
    rw [fillM_zero] at this
    exact this
  refine (h0 _ _).trans ((h1 _ _ _ (foldB_length iv P iv_length _)).trans ?_)
  rw [sumP_eq, sumP0, hP]
def run42' : List PV → List Ent → (Res → Option Res) → Option Res
  | [.ro 50 nl fl l], [], k => bif (l.all (PV.isRo 5) && decide (l.length ≤ 140737488355328)) && (allInt .u8 (flat l) && decide ((flat l).length ≤ 140737488355000)) then k ⟨.ar 29 (pu .u8 (sumP (ints (flat l)))), [], []⟩ else none
  | _, _, _ => none
def s42' : Sig := { own := [], run := run42' }
theorem ok42' : CallOk tau Try.prog 42 s42' := fn_ok2 tabOk F42_ok mixed fo42 bo42 (fun n => an42 (r42_0 n) (r42_1 n)) [] 0 [] run42' (fun n => ia42 n) fun xs es k res hr => by
  unfold run42' at hr
  split at hr
  · rename_i nl fl l
    obtain ⟨hc, hr⟩ := of_bif hr
    simp only [Bool.and_eq_true, decide_eq_true_eq] at hc
    refine ⟨rfl, (padP (ints (flat l))).length / 64 + 100, 0, (e42 _ _ _ _ _).trans ?_⟩
    rw [g42_eq nl fl l k hc.1.1 hc.1.2 hc.2.1 hc.2.2]; exact hr
  · cases hr
end Go.Proofs.Ytodldmomneecpab.Rx

/- What comitia/wavelet.New computes. Own work, printed by a program of the worker's own. -/
namespace Go.Proofs.Ytodldmomneecpab.Rx
open Go
set_option linter.unusedVariables false
set_option maxRecDepth 100000
set_option maxHeartbeats 0
def N16 : Nat := 45
noncomputable def F16 : Fns := addF 41 s41' (addF 42 s42' F0)
theorem F16_ok : FnsOk tau Try.prog F16 := (F0_ok.add ok42' en42).add ok41' en41
noncomputable def c16_0 : Code := subC (Try.f16.body.get!) [1, 1, 0, 1, 0, 0]
def nm16_0 : Nm := [(2, .any), (3, .any), (4, .any), (5, .any), (22, .any), (23, .any), (24, .any)]
def nx16_0 : Nm := [(2, .any), (3, .any), (4, .any), (5, .any)]
def x16_0 : An := (.seq .leaf (.seq (.cond .leaf .leaf) (.seq (.block none (.seq .leaf .leaf)) .leaf)))
def an16 : An := (.seq .leaf (.seq .leaf (.seq (.seq .leaf (.block none (.loop nm16_0 x16_0))) (.seq .leaf .leaf))))
def g16 (f : Nat) (h : Int) (n : Int) (d : Int) (u : Int) (k : Res → Option Res) : Option Res :=
  bif (fTo FloatKind.f64 (fOf FloatKind.f64 h)).isSome && decide (Int.negSucc 9223372036854775807 ≤ (fTo FloatKind.f64 (fOf FloatKind.f64 h)).getD 0) &&
      decide ((fTo FloatKind.f64 (fOf FloatKind.f64 h)).getD 0 ≤ Int.ofNat (2 ^ (IntKind.i64.bits - 1) - Nat.succ 0)) &&
    true then
    bif (fTo FloatKind.f64 (fOf FloatKind.f64 n)).isSome && decide (Int.negSucc 9223372036854775807 ≤ (fTo FloatKind.f64 (fOf FloatKind.f64 n)).getD 0) &&
        decide ((fTo FloatKind.f64 (fOf FloatKind.f64 n)).getD 0 ≤ Int.ofNat (2 ^ (IntKind.i64.bits - 1) - Nat.succ 0)) &&
      true then
      bif allInt IntKind.u8 (pu IntKind.u8 ([] ++ intB ((fTo FloatKind.f64 (fOf FloatKind.f64 h)).getD 0))) &&
        (decide ((pu IntKind.u8 ([] ++ intB ((fTo FloatKind.f64 (fOf FloatKind.f64 h)).getD 0))).length ≤ 1000) && true) then
        bif (fTo FloatKind.f64 (fOf FloatKind.f64 d)).isSome && decide (Int.negSucc 9223372036854775807 ≤ (fTo FloatKind.f64 (fOf FloatKind.f64 d)).getD 0) &&
            decide ((fTo FloatKind.f64 (fOf FloatKind.f64 d)).getD 0 ≤ Int.ofNat (2 ^ (IntKind.i64.bits - 1) - Nat.succ 0)) &&
          true then
          bif allInt IntKind.u8 (pu IntKind.u8 (ints (pu IntKind.u8 ([] ++ intB ((fTo FloatKind.f64 (fOf FloatKind.f64 h)).getD 0))) ++ intB ((fTo FloatKind.f64 (fOf FloatKind.f64 n)).getD 0))) &&
            (decide ((pu IntKind.u8 (ints (pu IntKind.u8 ([] ++ intB ((fTo FloatKind.f64 (fOf FloatKind.f64 h)).getD 0))) ++ intB ((fTo FloatKind.f64 (fOf FloatKind.f64 n)).getD 0))).length ≤ 1000) &&
              true) then
            bif (fTo FloatKind.f64 (fOf FloatKind.f64 u)).isSome && decide (Int.negSucc 9223372036854775807 ≤ (fTo FloatKind.f64 (fOf FloatKind.f64 u)).getD 0) &&
                decide ((fTo FloatKind.f64 (fOf FloatKind.f64 u)).getD 0 ≤ Int.ofNat (2 ^ (IntKind.i64.bits - 1) - Nat.succ 0)) &&
              true then
              bif allInt IntKind.u8
                  (pu IntKind.u8
                    (ints (pu IntKind.u8 (ints (pu IntKind.u8 ([] ++ intB ((fTo FloatKind.f64 (fOf FloatKind.f64 h)).getD 0))) ++ intB ((fTo FloatKind.f64 (fOf FloatKind.f64 n)).getD 0))) ++
                      intB ((fTo FloatKind.f64 (fOf FloatKind.f64 d)).getD 0))) &&
                (decide
                    ((pu IntKind.u8
                          (ints (pu IntKind.u8 (ints (pu IntKind.u8 ([] ++ intB ((fTo FloatKind.f64 (fOf FloatKind.f64 h)).getD 0))) ++ intB ((fTo FloatKind.f64 (fOf FloatKind.f64 n)).getD 0))) ++
                            intB ((fTo FloatKind.f64 (fOf FloatKind.f64 d)).getD 0))).length ≤
                      1000) &&
                  true) then
                bif allInt IntKind.u8
                    (flat
                      [PV.ro 5 false false
                          (pu IntKind.u8
                            (ints
                                (pu IntKind.u8
                                  (ints
                                      (pu IntKind.u8
                                        (ints (pu IntKind.u8 ([] ++ intB ((fTo FloatKind.f64 (fOf FloatKind.f64 h)).getD 0))) ++ intB ((fTo FloatKind.f64 (fOf FloatKind.f64 n)).getD 0))) ++
                                    intB ((fTo FloatKind.f64 (fOf FloatKind.f64 d)).getD 0))) ++
                              intB ((fTo FloatKind.f64 (fOf FloatKind.f64 u)).getD 0)))]) &&
                  decide
                    ((flat
                          [PV.ro 5 false false
                              (pu IntKind.u8
                                (ints
                                    (pu IntKind.u8
                                      (ints
                                          (pu IntKind.u8
                                            (ints (pu IntKind.u8 ([] ++ intB ((fTo FloatKind.f64 (fOf FloatKind.f64 h)).getD 0))) ++ intB ((fTo FloatKind.f64 (fOf FloatKind.f64 n)).getD 0))) ++
                                        intB ((fTo FloatKind.f64 (fOf FloatKind.f64 d)).getD 0))) ++
                                  intB ((fTo FloatKind.f64 (fOf FloatKind.f64 u)).getD 0)))]).length ≤
                      140737488355000) then
                  k (Res.mk
                    (PV.st 31
                      [PV.st 26 [PV.sc (Value.int IntKind.i64 h), PV.sc (Value.int IntKind.i64 n)], PV.sc (Value.string (ByteArray.mk #[])),
                        PV.ro 23 false false [PV.st 23 [PV.sc (Value.int IntKind.i64 d), PV.sc (Value.int IntKind.i64 u)]], PV.sc (Value.int IntKind.i64 0),
                        PV.ar 29
                          (pu IntKind.u8
                            (sumP
                              (ints
                                (flat
                                  [PV.ro 5 false false
                                      (pu IntKind.u8
                                        (ints
                                            (pu IntKind.u8
                                              (ints
                                                  (pu IntKind.u8
                                                    (ints (pu IntKind.u8 ([] ++ intB ((fTo FloatKind.f64 (fOf FloatKind.f64 h)).getD 0))) ++
                                                      intB ((fTo FloatKind.f64 (fOf FloatKind.f64 n)).getD 0))) ++
                                                intB ((fTo FloatKind.f64 (fOf FloatKind.f64 d)).getD 0))) ++
                                          intB ((fTo FloatKind.f64 (fOf FloatKind.f64 u)).getD 0)))]))))])
                    [] [])
                else none
              else none
            else none
          else none
        else none
      else none
    else none
  else none
theorem e16 (f : Nat) (h : Int) (n : Int) (d : Int) (u : Int) (k : Res → Option Res) : evFn tau F16 Try.f16 (Try.f16.body.get!) an16 [.ro] 4 [.st 26 [.sc (.int .i64 h), .sc (.int .i64 n)], .st 23 [.sc (.int .i64 d), .sc (.int .i64 u)]] [] k = g16 f h n d u k := by kernel_rfl
theorem it16 (f : Nat) : items (Try.f16.body.get!) an16 = [] := by kernel_rfl
theorem ia16 (f : Nat) : ∀ q ∈ items (Try.f16.body.get!) an16, q.Ok tau Try.prog 0 := by
  rw [it16 f]; intro q hq; cases hq
theorem fo16 : Try.prog.funcs[16]? = some Try.f16 := by kernel_rfl
theorem bo16 : Try.f16.body = some (Try.f16.body.get!) := by kernel_rfl
theorem en16 : Enters Try.prog 16 := enters_of fo16 (by kernel_rfl) bo16
def run16 : List PV → List Ent → (Res → Option Res) → Option Res
  | [.st 26 [.sc (.int .i64 h), .sc (.int .i64 n)], .st 23 [.sc (.int .i64 d), .sc (.int .i64 u)]], [], k => g16 0 h n d u k
  | _, _, _ => none
def s16 : Sig := { own := [], run := run16 }
theorem ok16 : CallOk tau Try.prog 16 s16 := fn_ok tabOk F16_ok mixed fo16 bo16 an16 [.ro] 0 [] run16 (ia16 0) fun xs es k res hr => by
  unfold run16 at hr
  split at hr
  · exact ⟨rfl, 4, (e16 0 _ _ _ _  _).trans hr⟩
  · cases hr
end Go.Proofs.Ytodldmomneecpab.Rx

/- A wavelet at its beginning. Own work. -/
namespace Go.Proofs.Ytodldmomneecpab.Rx
open Go
set_option linter.unusedVariables false
set_option linter.unusedSimpArgs false
set_option maxRecDepth 100000
set_option maxHeartbeats 1000000
theorem flt_all : (List.range 128).all (fun i => fTo .f64 (fOf .f64 (i : Int)) == some (i : Int)) = true := by kernel_rfl
theorem flt_small {x : Int} (h0 : 0 ≤ x) (h1 : x < 128) : fTo .f64 (fOf .f64 x) = some x := by
  have := List.all_eq_true.1 flt_all x.toNat (List.mem_range.2 (by omega))
  rw [show ((x.toNat : Nat) : Int) = x from by omega] at this
  simpa using this
def small4 (a b c d : Int) : Bool := (decide (0 ≤ a) && decide (a < 128)) && (decide (0 ≤ b) && decide (b < 128)) && (decide (0 ≤ c) && decide (c < 128)) && (decide (0 ≤ d) && decide (d < 128))
def bytes4 (a b c d : Int) : List Int := intB a ++ intB b ++ intB c ++ intB d
theorem bytes4_length (a b c d : Int) : (bytes4 a b c d).length = 32 := by simp [bytes4, intB_length]
def stP (h n d u : Int) : PV := .st 31 [.st 26 [.sc (.int .i64 h), .sc (.int .i64 n)], .sc (.string (ByteArray.mk #[])), .ro 23 false false [.st 23 [.sc (.int .i64 d), .sc (.int .i64 u)]], .sc (.int .i64 0), .ar 29 (pu .u8 (sumP (bytes4 h n d u)))]
theorem g16_eq (h n d u : Int) (hs : small4 h n d u = true) (k : Res → Option Res) : g16 0 h n d u k = k ⟨stP h n d u, [], []⟩ := by
  simp only [small4, Bool.and_eq_true, decide_eq_true_eq] at hs
  have c : ∀ x : Int, 0 ≤ x → x < 128 → (decide (Int.negSucc 9223372036854775807 ≤ x) && decide (x ≤ Int.ofNat (2 ^ (IntKind.i64.bits - 1) - Nat.succ 0))) = true := by
    intro x h0 h1
    have e1 : Int.ofNat (2 ^ (IntKind.i64.bits - 1) - Nat.succ 0) = 9223372036854775807 := by decide
    rw [e1]; simp; omega
  have c1 : ∀ x : Int, 0 ≤ x → x < 128 → decide (Int.negSucc 9223372036854775807 ≤ x) = true := fun x h0 h1 => by have := c x h0 h1; simp only [Bool.and_eq_true] at this; exact this.1
  have c2 : ∀ x : Int, 0 ≤ x → x < 128 → decide (x ≤ Int.ofNat (2 ^ (IntKind.i64.bits - 1) - Nat.succ 0)) = true := fun x h0 h1 => by have := c x h0 h1; simp only [Bool.and_eq_true] at this; exact this.2
  unfold g16
  simp only [flt_small hs.1.1.1.1 hs.1.1.1.2, flt_small hs.1.1.2.1 hs.1.1.2.2, flt_small hs.1.2.1 hs.1.2.2, flt_small hs.2.1 hs.2.2, Option.isSome_some, Option.getD_some, c1 _ hs.1.1.1.1 hs.1.1.1.2, c1 _ hs.1.1.2.1 hs.1.1.2.2, c1 _ hs.1.2.1 hs.1.2.2, c1 _ hs.2.1 hs.2.2, c2 _ hs.1.1.1.1 hs.1.1.1.2, c2 _ hs.1.1.2.1 hs.1.1.2.2, c2 _ hs.1.2.1 hs.1.2.2, c2 _ hs.2.1 hs.2.2,
    ints_pu, allInt_pu, pu_length, flat_cons, flat_nil, PV.els, List.append_nil, List.nil_append, List.length_append, intB_length, Bool.and_true, Bool.true_and, cond_true, Nat.reduceAdd, Nat.reduceLeDiff, decide_true]
  rfl
def run16' : List PV → List Ent → (Res → Option Res) → Option Res
  | [.st 26 [.sc (.int .i64 h), .sc (.int .i64 n)], .st 23 [.sc (.int .i64 d), .sc (.int .i64 u)]], [], k => bif small4 h n d u then k ⟨stP h n d u, [], []⟩ else none
  | _, _, _ => none
def s16' : Sig := { own := [], run := run16' }
theorem ok16' : CallOk tau Try.prog 16 s16' := CallOk.mk' fun xs es k res hl hr => by
  change run16' xs es k = some res at hr
  unfold run16' at hr
  split at hr
  · rename_i h n d u
    obtain ⟨hc, hr2⟩ := of_bif hr
    have h1 := (e16 0 h n d u k).trans ((g16_eq h n d u hc k).trans hr2)
    exact fn_at tabOk F16_ok mixed fo16 bo16 an16 [.ro] 0 4 (ia16 0) hl rfl h1
  · cases hr
end Go.Proofs.Ytodldmomneecpab.Rx

/- What comitia/comitialaw13.known computes. Own work, printed by a program of the worker's own. -/
namespace Go.Proofs.Ytodldmomneecpab.Rx
open Go
set_option linter.unusedVariables false
set_option maxRecDepth 100000
set_option maxHeartbeats 0
def N14 : Nat := 27
noncomputable def F14 : Fns := addF 16 s16' F0
theorem F14_ok : FnsOk tau Try.prog F14 := F0_ok.add ok16' en16
def an14 : An := (.seq .leaf (.seq .leaf (.seq .leaf .leaf)))
def g14 (f : Nat)  (k : Res → Option Res) : Option Res :=
  k (Res.mk (PV.sc (Value.bool true)) [] [])
theorem e14 (f : Nat)  (k : Res → Option Res) : evFn tau F14 Try.f14 (Try.f14.body.get!) an14 [] 0 [] [] k = g14 f  k := by kernel_rfl
theorem it14 (f : Nat) : items (Try.f14.body.get!) an14 = [] := by kernel_rfl
theorem ia14 (f : Nat) : ∀ q ∈ items (Try.f14.body.get!) an14, q.Ok tau Try.prog 0 := by
  rw [it14 f]; intro q hq; cases hq
theorem fo14 : Try.prog.funcs[14]? = some Try.f14 := by kernel_rfl
theorem bo14 : Try.f14.body = some (Try.f14.body.get!) := by kernel_rfl
theorem en14 : Enters Try.prog 14 := enters_of fo14 (by kernel_rfl) bo14
def run14 : List PV → List Ent → (Res → Option Res) → Option Res
  | [], [], k => g14 0  k
  | _, _, _ => none
def s14 : Sig := { own := [], run := run14 }
theorem ok14 : CallOk tau Try.prog 14 s14 := fn_ok tabOk F14_ok mixed fo14 bo14 an14 [] 0 [] run14 (ia14 0) fun xs es k res hr => by
  unfold run14 at hr
  split at hr
  · exact ⟨rfl, 0, (e14 0  _).trans hr⟩
  · cases hr
end Go.Proofs.Ytodldmomneecpab.Rx

/- What comitia/comitialaw13.within computes. Own work, printed by a program of the worker's own. -/
namespace Go.Proofs.Ytodldmomneecpab.Rx
open Go
set_option linter.unusedVariables false
set_option maxRecDepth 100000
set_option maxHeartbeats 0
def N15 : Nat := 15
noncomputable def F15 : Fns := F0
theorem F15_ok : FnsOk tau Try.prog F15 := F0_ok
def an15 : An := (.seq .leaf (.seq .leaf (.seq (.seq .leaf (.cond .leaf .leaf)) (.seq .leaf .leaf))))
def g15 (f : Nat) (a : Int) (n : Int) (k : Res → Option Res) : Option Res :=
  bif !decide (n = 0) && true then
    bif decide (a.tmod n < 0) then
      k (Res.mk (PV.sc (Value.int IntKind.i64 (IntKind.i64.wrap (a.tmod n + n)))) [] [])
    else k (Res.mk (PV.sc (Value.int IntKind.i64 (a.tmod n))) [] [])
  else none
theorem e15 (f : Nat) (a : Int) (n : Int) (k : Res → Option Res) : evFn tau F15 Try.f15 (Try.f15.body.get!) an15 [] 0 [.sc (.int .i64 a), .sc (.int .i64 n)] [] k = g15 f a n k := by kernel_rfl
theorem it15 (f : Nat) : items (Try.f15.body.get!) an15 = [] := by kernel_rfl
theorem ia15 (f : Nat) : ∀ q ∈ items (Try.f15.body.get!) an15, q.Ok tau Try.prog 0 := by
  rw [it15 f]; intro q hq; cases hq
theorem fo15 : Try.prog.funcs[15]? = some Try.f15 := by kernel_rfl
theorem bo15 : Try.f15.body = some (Try.f15.body.get!) := by kernel_rfl
theorem en15 : Enters Try.prog 15 := enters_of fo15 (by kernel_rfl) bo15
def run15 : List PV → List Ent → (Res → Option Res) → Option Res
  | [.sc (.int .i64 a), .sc (.int .i64 n)], [], k => g15 0 a n k
  | _, _, _ => none
def s15 : Sig := { own := [], run := run15 }
theorem ok15 : CallOk tau Try.prog 15 s15 := fn_ok tabOk F15_ok mixed fo15 bo15 an15 [] 0 [] run15 (ia15 0) fun xs es k res hr => by
  unfold run15 at hr
  split at hr
  · exact ⟨rfl, 0, (e15 0 _ _  _).trans hr⟩
  · cases hr
end Go.Proofs.Ytodldmomneecpab.Rx

/- A number from nought on. Own work. -/
namespace Go.Proofs.Ytodldmomneecpab.Rx
open Go
set_option linter.unusedVariables false
set_option maxRecDepth 100000
def run15' : List PV → List Ent → (Res → Option Res) → Option Res
  | [.sc (.int .i64 a), .sc (.int .i64 n)], [], k => bif decide (0 < n) && decide (n < 1000000000000) then k ⟨.sc (.int .i64 (a % n)), [], []⟩ else none
  | _, _, _ => none
def s15' : Sig := { own := [], run := run15' }
theorem g15_eq (a n : Int) (h : 0 < n) (h2 : n < 1000000000000) (k : Res → Option Res) : g15 0 a n k = k ⟨.sc (.int .i64 (a % n)), [], []⟩ := by
  have hn : (n == 0) = false := by simp; omega
  have e := Int.tmod_eq_emod (a := a) (b := n)
  have e0 := Int.emod_nonneg a (show n ≠ 0 by omega)
  have e1 := Int.emod_lt_of_pos a h
  have hna : (n.natAbs : Int) = n := by omega
  unfold g15
  refine (bif_t (by simp; omega)).trans ?_
  by_cases hc : a.tmod n < 0
  · refine (bif_t (by simpa using hc)).trans ?_
    have : IntKind.i64.wrap (a.tmod n + n) = a % n := by
      split at e <;> (rw [wrap_i64 (by omega) (by omega)]; omega)
    rw [this]
  · refine (bif_f (by simpa using hc)).trans ?_
    have : a.tmod n = a % n := by split at e <;> omega
    rw [this]
theorem ok15' : CallOk tau Try.prog 15 s15' := ok15.of fun xs es k res hr => by
  change run15' xs es k = some res at hr
  unfold run15' at hr
  split at hr
  · obtain ⟨hc, hr⟩ := of_bif hr
    simp only [Bool.and_eq_true, decide_eq_true_eq] at hc
    exact (g15_eq _ _ hc.1 hc.2 _).trans hr
  · cases hr
end Go.Proofs.Ytodldmomneecpab.Rx

/- What comitia/comitiaref2.words computes. Own work, printed by a program of the worker's own. -/
namespace Go.Proofs.Ytodldmomneecpab.Rx
open Go
set_option linter.unusedVariables false
set_option maxRecDepth 100000
set_option maxHeartbeats 0
def N43 : Nat := 2
noncomputable def F43 : Fns := F0
theorem F43_ok : FnsOk tau Try.prog F43 := F0_ok
def an43 : An := (.seq .leaf (.seq .leaf .leaf))
def g43 (f : Nat)  (k : Res → Option Res) : Option Res :=
  k (Res.mk
    (PV.ar 104
      [PV.sc (Value.int IntKind.u32 1116352408), PV.sc (Value.int IntKind.u32 1899447441), PV.sc (Value.int IntKind.u32 3049323471), PV.sc (Value.int IntKind.u32 3921009573),
        PV.sc (Value.int IntKind.u32 961987163), PV.sc (Value.int IntKind.u32 1508970993), PV.sc (Value.int IntKind.u32 2453635748), PV.sc (Value.int IntKind.u32 2870763221),
        PV.sc (Value.int IntKind.u32 3624381080), PV.sc (Value.int IntKind.u32 310598401), PV.sc (Value.int IntKind.u32 607225278), PV.sc (Value.int IntKind.u32 1426881987),
        PV.sc (Value.int IntKind.u32 1925078388), PV.sc (Value.int IntKind.u32 2162078206), PV.sc (Value.int IntKind.u32 2614888103), PV.sc (Value.int IntKind.u32 3248222580),
        PV.sc (Value.int IntKind.u32 3835390401), PV.sc (Value.int IntKind.u32 4022224774), PV.sc (Value.int IntKind.u32 264347078), PV.sc (Value.int IntKind.u32 604807628),
        PV.sc (Value.int IntKind.u32 770255983), PV.sc (Value.int IntKind.u32 1249150122), PV.sc (Value.int IntKind.u32 1555081692), PV.sc (Value.int IntKind.u32 1996064986),
        PV.sc (Value.int IntKind.u32 2554220882), PV.sc (Value.int IntKind.u32 2821834349), PV.sc (Value.int IntKind.u32 2952996808), PV.sc (Value.int IntKind.u32 3210313671),
        PV.sc (Value.int IntKind.u32 3336571891), PV.sc (Value.int IntKind.u32 3584528711), PV.sc (Value.int IntKind.u32 113926993), PV.sc (Value.int IntKind.u32 338241895),
        PV.sc (Value.int IntKind.u32 666307205), PV.sc (Value.int IntKind.u32 773529912), PV.sc (Value.int IntKind.u32 1294757372), PV.sc (Value.int IntKind.u32 1396182291),
        PV.sc (Value.int IntKind.u32 1695183700), PV.sc (Value.int IntKind.u32 1986661051), PV.sc (Value.int IntKind.u32 2177026350), PV.sc (Value.int IntKind.u32 2456956037),
        PV.sc (Value.int IntKind.u32 2730485921), PV.sc (Value.int IntKind.u32 2820302411), PV.sc (Value.int IntKind.u32 3259730800), PV.sc (Value.int IntKind.u32 3345764771),
        PV.sc (Value.int IntKind.u32 3516065817), PV.sc (Value.int IntKind.u32 3600352804), PV.sc (Value.int IntKind.u32 4094571909), PV.sc (Value.int IntKind.u32 275423344),
        PV.sc (Value.int IntKind.u32 430227734), PV.sc (Value.int IntKind.u32 506948616), PV.sc (Value.int IntKind.u32 659060556), PV.sc (Value.int IntKind.u32 883997877),
        PV.sc (Value.int IntKind.u32 958139571), PV.sc (Value.int IntKind.u32 1322822218), PV.sc (Value.int IntKind.u32 1537002063), PV.sc (Value.int IntKind.u32 1747873779),
        PV.sc (Value.int IntKind.u32 1955562222), PV.sc (Value.int IntKind.u32 2024104815), PV.sc (Value.int IntKind.u32 2227730452), PV.sc (Value.int IntKind.u32 2361852424),
        PV.sc (Value.int IntKind.u32 2428436474), PV.sc (Value.int IntKind.u32 2756734187), PV.sc (Value.int IntKind.u32 3204031479), PV.sc (Value.int IntKind.u32 3329325298)])
    [] [])
theorem e43 (f : Nat)  (k : Res → Option Res) : evFn tau F43 Try.f43 (Try.f43.body.get!) an43 [] 0 [] [] k = g43 f  k := by kernel_rfl
theorem it43 (f : Nat) : items (Try.f43.body.get!) an43 = [] := by kernel_rfl
theorem ia43 (f : Nat) : ∀ q ∈ items (Try.f43.body.get!) an43, q.Ok tau Try.prog 0 := by
  rw [it43 f]; intro q hq; cases hq
theorem fo43 : Try.prog.funcs[43]? = some Try.f43 := by kernel_rfl
theorem bo43 : Try.f43.body = some (Try.f43.body.get!) := by kernel_rfl
theorem en43 : Enters Try.prog 43 := enters_of fo43 (by kernel_rfl) bo43
def run43 : List PV → List Ent → (Res → Option Res) → Option Res
  | [], [], k => g43 0  k
  | _, _, _ => none
def s43 : Sig := { own := [], run := run43 }
theorem ok43 : CallOk tau Try.prog 43 s43 := fn_ok tabOk F43_ok mixed fo43 bo43 an43 [] 0 [] run43 (ia43 0) fun xs es k res hr => by
  unfold run43 at hr
  split at hr
  · exact ⟨rfl, 0, (e43 0  _).trans hr⟩
  · cases hr
end Go.Proofs.Ytodldmomneecpab.Rx
