/- What the functions of this law compute, and their plain laws. Conditions: none. -/
import Derived.Test.YtcklhipdldpkhaaProg
import Derived.Test.YtcklhipdldpkhaaSignChainZ4
namespace Go.Proofs.Ytcklhipdldpkhaa.Rx
open Go
set_option linter.unusedVariables false
set_option maxRecDepth 100000
def tys : List TypeId := [1, 2, 3, 4, 5, 9, 12, 21, 22, 23, 24, 25, 26, 28, 29, 30, 31, 32, 33, 34, 35, 36, 37, 38, 39, 40, 41, 42, 43, 44, 45, 46, 47, 48, 49, 50, 51, 52, 53, 54, 55, 56, 57, 58, 59, 60, 62, 64, 65, 66, 67, 68, 69, 70, 71, 72, 73, 74, 75, 76, 77, 78, 79, 81, 82, 83, 85, 86, 87, 88, 89, 90, 91, 92, 93, 94, 95, 96, 97, 98, 99, 100, 101, 102, 103, 104, 105, 106, 107, 109, 110, 111, 112, 113, 114, 115, 116, 117, 118, 119, 120, 121, 122, 123, 124, 125, 126, 128, 129, 130, 131, 132, 133, 134, 135, 136, 137, 138, 139, 140, 141, 142, 143, 144, 145, 146, 147, 148, 149, 150, 151, 152, 153, 155, 156, 157, 158, 160, 161, 162, 163, 164, 165, 166, 167, 168, 170, 172, 173, 174, 176, 177, 184, 185, 186, 187, 188, 189, 190, 191, 192, 193, 195, 196, 197, 198, 200, 202, 203, 204, 205, 206, 207, 208, 209, 212, 213]
def zerT : TypeId → Option PV := fun t =>
  bif t == 1 then some (.sc .nilFunc) else
  bif t == 2 then some (.sc (.int .i64 0)) else
  bif t == 3 then some (.sc (.int .i64 0)) else
  bif t == 4 then some (.sc (.bool false)) else
  bif t == 5 then some (.sc (.int .u8 0)) else
  bif t == 9 then some (.sc (.string ByteArray.empty)) else
  bif t == 12 then some (.sc (.int .u64 0)) else
  bif t == 21 then some (.sc (.int .i32 0)) else
  bif t == 22 then some (.ro 106 true true []) else
  bif t == 23 then some (.sc .nilFunc) else
  bif t == 24 then some (.sc .nilFunc) else
  bif t == 25 then some (.ro 93 true true []) else
  bif t == 26 then some (.ro 41 true true []) else
  bif t == 28 then some (.sc .nilFunc) else
  bif t == 29 then some (.ro 5 true true []) else
  bif t == 30 then some (.st 30 (List.replicate 3 (.ro 5 true true []))) else
  bif t == 31 then some (.st 31 (List.replicate 3 (.ro 5 true true []))) else
  bif t == 32 then some (.sc .nilFunc) else
  bif t == 33 then some (.st 33 [.sc (.int .i64 0), .sc (.int .i64 0)]) else
  bif t == 34 then some (.st 34 [.sc (.int .i64 0), .sc (.int .i64 0)]) else
  bif t == 35 then some (.ro 45 true true []) else
  bif t == 36 then some (.ar 36 (List.replicate 32 (.sc (.int .u8 0)))) else
  bif t == 37 then some (.ar 37 (List.replicate 32 (.sc (.int .u8 0)))) else
  bif t == 38 then some (.st 38 [.st 34 [.sc (.int .i64 0), .sc (.int .i64 0)], .sc (.string ByteArray.empty), .ro 45 true true [], .sc (.int .i64 0), .ar 37 (List.replicate 32 (.sc (.int .u8 0)))]) else
  bif t == 39 then some (.st 39 [.st 34 [.sc (.int .i64 0), .sc (.int .i64 0)], .sc (.string ByteArray.empty), .ro 45 true true [], .sc (.int .i64 0), .ar 37 (List.replicate 32 (.sc (.int .u8 0)))]) else
  bif t == 40 then some (.sc .nilFunc) else
  bif t == 41 then some (.st 41 [.st 34 [.sc (.int .i64 0), .sc (.int .i64 0)], .sc (.string ByteArray.empty), .ro 45 true true [], .sc (.int .i64 0), .ar 37 (List.replicate 32 (.sc (.int .u8 0)))]) else
  bif t == 42 then some (.sc .nilFunc) else
  bif t == 43 then some (.sc .nilFunc) else
  bif t == 44 then some (.st 44 [.sc (.int .i64 0), .sc (.int .i64 0)]) else
  bif t == 45 then some (.st 45 [.sc (.int .i64 0), .sc (.int .i64 0)]) else
  bif t == 46 then some (.sc .nilFunc) else
  bif t == 47 then some (.ro 29 true true []) else
  bif t == 48 then some (.sc .nilFunc) else
  bif t == 49 then some (.sc .nilFunc) else
  bif t == 50 then some (.sc .nilFunc) else
  bif t == 51 then some (.sc .nilFunc) else
  bif t == 52 then some (.sc .nilFunc) else
  bif t == 53 then some (.st 53 [.sc (.int .i64 0), .sc (.int .i64 0), .sc (.int .i64 0), .st 34 [.sc (.int .i64 0), .sc (.int .i64 0)], .st 45 [.sc (.int .i64 0), .sc (.int .i64 0)], .sc (.int .i64 0), .sc (.int .i64 0), .st 45 [.sc (.int .i64 0), .sc (.int .i64 0)], .sc (.int .i64 0), .sc (.int .i64 0), .ro 29 true true []]) else
  bif t == 54 then some (.st 54 [.sc (.int .i64 0), .sc (.int .i64 0), .sc (.int .i64 0), .st 34 [.sc (.int .i64 0), .sc (.int .i64 0)], .st 45 [.sc (.int .i64 0), .sc (.int .i64 0)], .sc (.int .i64 0), .sc (.int .i64 0), .st 45 [.sc (.int .i64 0), .sc (.int .i64 0)], .sc (.int .i64 0), .sc (.int .i64 0), .ro 29 true true []]) else
  bif t == 55 then some (.ro 3 true true []) else
  bif t == 56 then some (.sc .nilFunc) else
  bif t == 57 then some (.sc .nilFunc) else
  bif t == 58 then some (.sc .nilFunc) else
  bif t == 59 then some (.sc .nilFunc) else
  bif t == 60 then some (.sc (.int .i64 0)) else
  bif t == 62 then some (.sc .nilFunc) else
  bif t == 64 then some (.sc .nilFunc) else
  bif t == 65 then some (.sc .nilFunc) else
  bif t == 66 then some (.sc .nilFunc) else
  bif t == 67 then some (.sc .nilFunc) else
  bif t == 68 then some (.sc .nilFunc) else
  bif t == 69 then some (.sc .nilFunc) else
  bif t == 70 then some (.ro 99 true true []) else
  bif t == 71 then some (.ro 99 true true []) else
  bif t == 72 then some (.st 72 [.st 45 [.sc (.int .i64 0), .sc (.int .i64 0)], .sc (.int .i64 0), .sc (.int .i64 0), .ar 37 (List.replicate 32 (.sc (.int .u8 0))), .sc (.int .i64 0), .ro 99 true true [], .st 45 [.sc (.int .i64 0), .sc (.int .i64 0)]]) else
  bif t == 73 then some (.st 73 [.st 45 [.sc (.int .i64 0), .sc (.int .i64 0)], .sc (.int .i64 0), .sc (.int .i64 0), .ar 37 (List.replicate 32 (.sc (.int .u8 0))), .sc (.int .i64 0), .ro 99 true true [], .st 45 [.sc (.int .i64 0), .sc (.int .i64 0)]]) else
  bif t == 74 then some (.sc .nilFunc) else
  bif t == 75 then some (.sc .nilFunc) else
  bif t == 76 then some (.st 76 [.ro 5 true true [], .ar 37 (List.replicate 32 (.sc (.int .u8 0)))]) else
  bif t == 77 then some (.st 77 [.ro 5 true true [], .ar 37 (List.replicate 32 (.sc (.int .u8 0)))]) else
  bif t == 78 then some (.sc .nilFunc) else
  bif t == 79 then some (.sc .nilFunc) else
  bif t == 81 then some (.sc .nilFunc) else
  bif t == 82 then some (.sc .nilFunc) else
  bif t == 83 then some (.ro 31 true true []) else
  bif t == 85 then some (.sc .nilFunc) else
  bif t == 86 then some (.sc .nilFunc) else
  bif t == 87 then some (.sc .nilFunc) else
  bif t == 88 then some (.sc .nilFunc) else
  bif t == 89 then some (.sc .nilFunc) else
  bif t == 90 then some (.sc .nilFunc) else
  bif t == 91 then some (.sc .nilFunc) else
  bif t == 92 then some (.st 92 [.st 77 [.ro 5 true true [], .ar 37 (List.replicate 32 (.sc (.int .u8 0)))], .sc (.int .i64 0), .ro 99 true true [], .ar 37 (List.replicate 32 (.sc (.int .u8 0))), .ar 37 (List.replicate 32 (.sc (.int .u8 0)))]) else
  bif t == 93 then some (.st 93 [.st 77 [.ro 5 true true [], .ar 37 (List.replicate 32 (.sc (.int .u8 0)))], .sc (.int .i64 0), .ro 99 true true [], .ar 37 (List.replicate 32 (.sc (.int .u8 0))), .ar 37 (List.replicate 32 (.sc (.int .u8 0)))]) else
  bif t == 94 then some (.sc .nilFunc) else
  bif t == 95 then some (.sc .nilFunc) else
  bif t == 96 then some (.sc .nilFunc) else
  bif t == 97 then some (.sc .nilFunc) else
  bif t == 98 then some (.st 98 [.sc (.int .i64 0), .sc (.int .i64 0), .sc (.string ByteArray.empty)]) else
  bif t == 99 then some (.st 99 [.sc (.int .i64 0), .sc (.int .i64 0), .sc (.string ByteArray.empty)]) else
  bif t == 100 then some (.sc .nilFunc) else
  bif t == 101 then some (.sc .nilFunc) else
  bif t == 102 then some (.sc .nilFunc) else
  bif t == 103 then some (.sc .nilFunc) else
  bif t == 104 then some (.sc .nilFunc) else
  bif t == 105 then some (.st 105 [.sc (.int .i64 0), .sc (.int .i64 0), .sc (.int .i64 0), .ro 3 true true []]) else
  bif t == 106 then some (.st 106 [.sc (.int .i64 0), .sc (.int .i64 0), .sc (.int .i64 0), .ro 3 true true []]) else
  bif t == 107 then some (.sc .nilFunc) else
  bif t == 109 then some (.sc .nilFunc) else
  bif t == 110 then some (.sc .nilFunc) else
  bif t == 111 then some (.sc (.int .u32 0)) else
  bif t == 112 then some (.ar 112 (List.replicate 8 (.sc (.int .u32 0)))) else
  bif t == 113 then some (.ar 113 (List.replicate 8 (.sc (.int .u32 0)))) else
  bif t == 114 then some (.sc .nilFunc) else
  bif t == 115 then some (.sc .nilFunc) else
  bif t == 116 then some (.sc .nilFunc) else
  bif t == 117 then some (.sc .nilFunc) else
  bif t == 118 then some (.ar 118 (List.replicate 64 (.sc (.int .u32 0)))) else
  bif t == 119 then some (.sc .nilFunc) else
  bif t == 120 then some (.sc (.int .u64 0)) else
  bif t == 121 then some (.sc (.int .u64 0)) else
  bif t == 122 then some (.sc .nilFunc) else
  bif t == 123 then some (.sc .nilFunc) else
  bif t == 124 then some (.sc .nilFunc) else
  bif t == 125 then some (.sc (.pointer none)) else
  bif t == 126 then some (.sc .nilFunc) else
  bif t == 128 then some (.sc .nilFunc) else
  bif t == 129 then some (.sc .nilFunc) else
  bif t == 130 then some (.sc .nilFunc) else
  bif t == 131 then some (.sc .nilFunc) else
  bif t == 132 then some (.sc .nilFunc) else
  bif t == 133 then some (.sc (.pointer none)) else
  bif t == 134 then some (.sc .nilFunc) else
  bif t == 135 then some (.sc .nilFunc) else
  bif t == 136 then some (.sc .nilFunc) else
  bif t == 137 then some (.st 137 [.ro 5 true true [], .sc (.int .i64 0), .sc (.int .i64 0)]) else
  bif t == 138 then some (.st 138 [.ro 5 true true [], .sc (.int .i64 0), .sc (.int .i64 0)]) else
  bif t == 139 then some (.sc .nilFunc) else
  bif t == 140 then some (.sc .nilFunc) else
  bif t == 141 then some (.sc .nilFunc) else
  bif t == 142 then some (.sc .nilFunc) else
  bif t == 143 then some (.sc .nilFunc) else
  bif t == 144 then some (.sc .nilFunc) else
  bif t == 145 then some (.ro 148 true true []) else
  bif t == 146 then some (.sc .nilFunc) else
  bif t == 147 then some (.sc (.pointer none)) else
  bif t == 148 then some (.sc (.pointer none)) else
  bif t == 149 then some (.sc .nilFunc) else
  bif t == 150 then some (.sc .nilFunc) else
  bif t == 151 then some (.sc .nilFunc) else
  bif t == 152 then some (.sc .nilFunc) else
  bif t == 153 then some (.sc .nilFunc) else
  bif t == 155 then some (.sc .nilFunc) else
  bif t == 156 then some (.sc .nilFunc) else
  bif t == 157 then some (.sc .nilFunc) else
  bif t == 158 then some (.sc .nilFunc) else
  bif t == 160 then some (.sc .nilFunc) else
  bif t == 161 then some (.sc .nilFunc) else
  bif t == 162 then some (.sc .nilFunc) else
  bif t == 163 then some (.sc (.complex .f64 0 0)) else
  bif t == 164 then some (.sc (.float .f64 0)) else
  bif t == 165 then some (.ro 163 true true []) else
  bif t == 166 then some (.sc .nilFunc) else
  bif t == 167 then some (.sc .nilFunc) else
  bif t == 168 then some (.sc .nilFunc) else
  bif t == 170 then some (.sc .nilFunc) else
  bif t == 172 then some (.sc .nilFunc) else
  bif t == 173 then some (.sc .nilFunc) else
  bif t == 174 then some (.sc .nilFunc) else
  bif t == 176 then some (.sc .nilFunc) else
  bif t == 177 then some (.sc .nilFunc) else
  bif t == 184 then some (.sc .nilFunc) else
  bif t == 185 then some (.st 185 [.ro 5 true true [], .sc (.int .i64 0)]) else
  bif t == 186 then some (.st 186 [.ro 5 true true [], .sc (.int .i64 0)]) else
  bif t == 187 then some (.sc .nilFunc) else
  bif t == 188 then some (.sc .nilFunc) else
  bif t == 189 then some (.ar 189 (List.replicate 64 (.sc (.int .u8 0)))) else
  bif t == 190 then some (.ar 190 (List.replicate 64 (.sc (.int .u8 0)))) else
  bif t == 191 then some (.sc .nilFunc) else
  bif t == 192 then some (.sc .nilFunc) else
  bif t == 193 then some (.sc .nilFunc) else
  bif t == 195 then some (.sc .nilFunc) else
  bif t == 196 then some (.sc .nilFunc) else
  bif t == 197 then some (.sc .nilFunc) else
  bif t == 198 then some (.sc .nilFunc) else
  bif t == 200 then some (.sc .nilFunc) else
  bif t == 202 then some (.sc .nilFunc) else
  bif t == 203 then some (.sc (.pointer none)) else
  bif t == 204 then some (.sc .nilFunc) else
  bif t == 205 then some (.sc .nilFunc) else
  bif t == 206 then some (.sc .nilFunc) else
  bif t == 207 then some (.sc .nilFunc) else
  bif t == 208 then some (.sc .nilFunc) else
  bif t == 209 then some (.sc .nilFunc) else
  bif t == 212 then some (.sc .nilFunc) else
  bif t == 213 then some (.sc .nilFunc) else
  none
noncomputable def tau : Tab := tabOf Try.prog tys zerT
theorem tabOk : TabOk tau Try.prog := tabOk_of (by kernel_rfl)
theorem mixed : Try.prog.follows .mixedOrders = true := by kernel_rfl
def F0 : Fns := fun _ => none
theorem F0_ok : FnsOk tau Try.prog F0 := fun g sg h => by cases h
end Go.Proofs.Ytcklhipdldpkhaa.Rx

namespace Go.Proofs.Ytcklhipdldpkhaa.Rx
open Go
set_option linter.unusedVariables false
set_option maxRecDepth 100000
set_option maxHeartbeats 0
noncomputable def F21 : Fns := F0
theorem F21_ok : FnsOk tau Try.prog F21 := F0_ok
def an21 : An := (.seq .leaf (.seq .leaf (.seq .leaf .leaf)))
noncomputable def g21 (f : Nat) (b_z : Bool) (b_f : Bool) (b : List PV) (k : Res → Option Res) : Option Res := bif decide (0 ≤ minI (zi b.length) 60) && true && decide ((minI (zi b.length) 60).toNat ≤ b.length) && true then bif roomy (2 + (List.take (minI (zi b.length) 60).toNat b).length) 1 && true then bif roomy (2 + (List.take (minI (zi b.length) 60).toNat b).length) 1 && true then bif roomy (2 + (List.take (minI (zi b.length) 60).toNat b).length) 1 && true then k (Res.mk (.st 31 [.ro 5 false false (List.take (2 + (List.take (minI (zi b.length) 60).toNat b).length) (.sc (.int .u8 107) :: .sc (.int .u8 48) :: id (List.take (minI (zi b.length) 60).toNat b))), .ro 5 false false (List.take (2 + (List.take (minI (zi b.length) 60).toNat b).length) (.sc (.int .u8 107) :: .sc (.int .u8 49) :: id (List.take (minI (zi b.length) 60).toNat b))), .ro 5 false false (List.take (2 + (List.take (minI (zi b.length) 60).toNat b).length) (.sc (.int .u8 107) :: .sc (.int .u8 50) :: id (List.take (minI (zi b.length) 60).toNat b)))]) [] []) else none else none else none else none
theorem e21 (f : Nat) (b_z : Bool) (b_f : Bool) (b : List PV) (k : Res → Option Res) : evFn tau F21 Try.f21 (Try.f21.body.get!) an21 [.ro] 0 [.ro 5 b_z b_f b] [] k = g21 f b_z b_f b k := by kernel_rfl
theorem it21 (f : Nat) : items (Try.f21.body.get!) an21 = [] := by kernel_rfl
theorem ia21 (f : Nat) : ∀ q ∈ items (Try.f21.body.get!) an21, q.Ok tau Try.prog 0 := by
  rw [it21 f]; intro q hq; cases hq
theorem fo21 : Try.prog.funcs[21]? = some Try.f21 := by kernel_rfl
theorem bo21 : Try.f21.body = some (Try.f21.body.get!) := by kernel_rfl
theorem en21 : Enters Try.prog 21 := enters_of fo21 (by kernel_rfl) bo21
noncomputable def run21 : List PV → List Ent → (Res → Option Res) → Option Res
  | [.ro 5 b_z b_f b], [], k => g21 0 b_z b_f b k
  | _, _, _ => none
noncomputable def s21 : Sig := { own := [], run := run21 }
theorem ok21 : CallOk tau Try.prog 21 s21 := fn_ok tabOk F21_ok mixed fo21 bo21 an21 [.ro] 0 [] run21 (ia21 0) fun xs es k res hr => by
  unfold run21 at hr
  split at hr
  · exact ⟨rfl, 0, (e21 0 _ _ _  _).trans hr⟩
  · cases hr
end Go.Proofs.Ytcklhipdldpkhaa.Rx

namespace Go.Proofs.Ytcklhipdldpkhaa.Rx
open Go
set_option linter.unusedVariables false
set_option maxRecDepth 100000
set_option maxHeartbeats 0
end Go.Proofs.Ytcklhipdldpkhaa.Rx

-- FN law16.within
namespace Go.Proofs.Ytcklhipdldpkhaa.Rx
open Go
set_option linter.unusedVariables false
set_option maxRecDepth 100000
noncomputable def okW : Int → Bool := hid fun n => decide (0 < n) && decide (n < 1000000000000)
theorem okW_eq (n : Int) : okW n = (decide (0 < n) && decide (n < 1000000000000)) := by rw [okW, hid_eq]
end Go.Proofs.Ytcklhipdldpkhaa.Rx

namespace Go.Proofs.Ytcklhipdldpkhaa.Rx
open Go
set_option linter.unusedVariables false
set_option maxRecDepth 100000
set_option maxHeartbeats 0
end Go.Proofs.Ytcklhipdldpkhaa.Rx

namespace Go.Proofs.Ytcklhipdldpkhaa.Rx
open Go
set_option linter.unusedVariables false
set_option maxRecDepth 100000
set_option maxHeartbeats 0
end Go.Proofs.Ytcklhipdldpkhaa.Rx

namespace Go.Proofs.Ytcklhipdldpkhaa.Rx
open Go
set_option linter.unusedVariables false
set_option maxRecDepth 100000
set_option maxHeartbeats 0
noncomputable def F131 : Fns := F0
theorem F131_ok : FnsOk tau Try.prog F131 := F0_ok
def an131 : An := (.seq .leaf (.seq (.seq .leaf (.cond (.seq .leaf .leaf) .leaf)) (.seq .leaf .leaf)))
noncomputable def g131 (f : Nat) (s_z : Bool) (s_f : Bool) (s : List PV) (k : Res → Option Res) : Option Res := bif s_z then k (Res.mk (.ro 5 true true []) [] []) else bif roomy (0 + s.length) 1 && true then k (Res.mk (.ro 5 false false (List.take (0 + s.length) s)) [] []) else none
theorem e131 (f : Nat) (s_z : Bool) (s_f : Bool) (s : List PV) (k : Res → Option Res) : evFn tau F131 Try.f131 (Try.f131.body.get!) an131 [.ro] 0 [.ro 5 s_z s_f s] [] k = g131 f s_z s_f s k := by kernel_rfl
theorem it131 (f : Nat) : items (Try.f131.body.get!) an131 = [] := by kernel_rfl
theorem ia131 (f : Nat) : ∀ q ∈ items (Try.f131.body.get!) an131, q.Ok tau Try.prog 0 := by
  rw [it131 f]; intro q hq; cases hq
theorem fo131 : Try.prog.funcs[131]? = some Try.f131 := by kernel_rfl
theorem bo131 : Try.f131.body = some (Try.f131.body.get!) := by kernel_rfl
theorem en131 : Enters Try.prog 131 := enters_of fo131 (by kernel_rfl) bo131
noncomputable def run131 : List PV → List Ent → (Res → Option Res) → Option Res
  | [.ro 5 s_z s_f s], [], k => g131 0 s_z s_f s k
  | _, _, _ => none
noncomputable def s131 : Sig := { own := [], run := run131 }
theorem ok131 : CallOk tau Try.prog 131 s131 := fn_ok tabOk F131_ok mixed fo131 bo131 an131 [.ro] 0 [] run131 (ia131 0) fun xs es k res hr => by
  unfold run131 at hr
  split at hr
  · exact ⟨rfl, 0, (e131 0 _ _ _  _).trans hr⟩
  · cases hr
end Go.Proofs.Ytcklhipdldpkhaa.Rx

-- FN slices.Clone[[]byte,byte]
namespace Go.Proofs.Ytcklhipdldpkhaa.Rx
open Go
set_option linter.unusedVariables false
set_option linter.unusedSimpArgs false
set_option maxRecDepth 100000
def slB (z : Bool) (l : List PV) : Bool := (!z || l.isEmpty) && Nat.ble l.length 1000000000
theorem slB_iff {z : Bool} {l : List PV} : slB z l = true ↔ (z = true → l = []) ∧ l.length ≤ 1000000000 := by
  simp only [slB, Bool.and_eq_true, Nat.ble_eq, Bool.or_eq_true, Bool.not_eq_true', List.isEmpty_iff]
  cases z <;> simp
def run131' : List PV → List Ent → (Res → Option Res) → Option Res
  | [.ro 5 z f l], [], k => bif slB z l then k ⟨.ro 5 z z l, [], []⟩ else none
  | _, _, _ => none
def s131' : Sig := { own := [], run := run131' }
theorem ok131' : CallOk tau Try.prog 131 s131' := ok131.of fun xs es k res hr => by
  change run131' xs es k = some res at hr
  unfold run131' at hr
  split at hr
  · rename_i z f l
    obtain ⟨hc, hr⟩ := of_bif hr
    obtain ⟨h1, h2⟩ := slB_iff.1 hc
    show g131 0 z f l k = some res
    unfold g131
    cases z with
    | true => obtain rfl := h1 rfl; exact hr
    | false =>
      rw [cond_false, bif_t (by simp [roomy]; omega)]
      simp only [Nat.zero_add, List.nil_append, List.take_length]
      exact hr
  · cases hr
end Go.Proofs.Ytcklhipdldpkhaa.Rx

namespace Go.Proofs.Ytcklhipdldpkhaa.Rx
open Go
set_option linter.unusedVariables false
set_option maxRecDepth 100000
set_option maxHeartbeats 0
noncomputable def F76 : Fns := addF 131 s131' (F0)
theorem F76_ok : FnsOk tau Try.prog F76 := (F0_ok).add ok131' en131
def an76 : An := (.seq .leaf (.seq .leaf .leaf))
noncomputable def g76 (f : Nat) (b_z : Bool) (b_f : Bool) (b : List PV) (k : Res → Option Res) : Option Res := bif slB b_z b then k (Res.mk (.ptr 16 []) [] [.box false 186 (PV.st 186 [.ro 5 b_z b_z b, .sc (.int .i64 0)])]) else none
theorem e76 (f : Nat) (b_z : Bool) (b_f : Bool) (b : List PV) (k : Res → Option Res) : evFn tau F76 Try.f76 (Try.f76.body.get!) an76 [.any] 0 [.ro 5 b_z b_f b] [] k = g76 f b_z b_f b k := by kernel_rfl
theorem it76 (f : Nat) : items (Try.f76.body.get!) an76 = [] := by kernel_rfl
theorem ia76 (f : Nat) : ∀ q ∈ items (Try.f76.body.get!) an76, q.Ok tau Try.prog 0 := by
  rw [it76 f]; intro q hq; cases hq
theorem fo76 : Try.prog.funcs[76]? = some Try.f76 := by kernel_rfl
theorem bo76 : Try.f76.body = some (Try.f76.body.get!) := by kernel_rfl
theorem en76 : Enters Try.prog 76 := enters_of fo76 (by kernel_rfl) bo76
noncomputable def run76 : List PV → List Ent → (Res → Option Res) → Option Res
  | [.ro 5 b_z b_f b], [], k => g76 0 b_z b_f b k
  | _, _, _ => none
noncomputable def s76 : Sig := { own := [], run := run76 }
theorem ok76 : CallOk tau Try.prog 76 s76 := fn_ok tabOk F76_ok mixed fo76 bo76 an76 [.any] 0 [] run76 (ia76 0) fun xs es k res hr => by
  unfold run76 at hr
  split at hr
  · exact ⟨rfl, 0, (e76 0 _ _ _  _).trans hr⟩
  · cases hr
end Go.Proofs.Ytcklhipdldpkhaa.Rx

namespace Go.Proofs.Ytcklhipdldpkhaa.Rx
open Go
set_option linter.unusedVariables false
set_option maxRecDepth 100000
set_option maxHeartbeats 0
end Go.Proofs.Ytcklhipdldpkhaa.Rx

namespace Go.Proofs.Ytcklhipdldpkhaa.Rx
open Go
set_option linter.unusedVariables false
set_option maxRecDepth 100000
set_option maxHeartbeats 0
noncomputable def F134 : Fns := F0
theorem F134_ok : FnsOk tau Try.prog F134 := F0_ok
def an134 : An := (.seq .leaf (.cond .leaf .leaf))
noncomputable def g134 (f : Nat) (r_b_z : Bool) (r_b_f : Bool) (r_b : List PV) (r_e : Int) (e : Int) (k : Res → Option Res) : Option Res := bif r_e == 0 then k (Res.mk (.tup []) [.box false 186 (PV.st 186 [.ro 5 r_b_z r_b_f r_b, .sc (.int .i64 e)])] []) else k (Res.mk (.tup []) [.box false 186 (PV.st 186 [.ro 5 r_b_z r_b_f r_b, .sc (.int .i64 r_e)])] [])
theorem e134 (f : Nat) (r_b_z : Bool) (r_b_f : Bool) (r_b : List PV) (r_e : Int) (e : Int) (k : Res → Option Res) : evFn tau F134 Try.f134 (Try.f134.body.get!) an134 [] 0 [.ptr 0 [], .sc (.int .i64 e)] [.box false 186 (.st 186 [.ro 5 r_b_z r_b_f r_b, .sc (.int .i64 r_e)])] k = g134 f r_b_z r_b_f r_b r_e e k := by kernel_rfl
theorem it134 (f : Nat) : items (Try.f134.body.get!) an134 = [] := by kernel_rfl
theorem ia134 (f : Nat) : ∀ q ∈ items (Try.f134.body.get!) an134, q.Ok tau Try.prog 1 := by
  rw [it134 f]; intro q hq; cases hq
theorem fo134 : Try.prog.funcs[134]? = some Try.f134 := by kernel_rfl
theorem bo134 : Try.f134.body = some (Try.f134.body.get!) := by kernel_rfl
theorem en134 : Enters Try.prog 134 := enters_of fo134 (by kernel_rfl) bo134
noncomputable def run134 : List PV → List Ent → (Res → Option Res) → Option Res
  | [.ptr 0 [], .sc (.int .i64 e)], [.box false 186 (.st 186 [.ro 5 r_b_z r_b_f r_b, .sc (.int .i64 r_e)])], k => g134 0 r_b_z r_b_f r_b r_e e k
  | _, _, _ => none
noncomputable def s134 : Sig := { own := [], run := run134 }
theorem ok134 : CallOk tau Try.prog 134 s134 := fn_ok tabOk F134_ok mixed fo134 bo134 an134 [] 1 [] run134 (ia134 0) fun xs es k res hr => by
  unfold run134 at hr
  split at hr
  · exact ⟨rfl, 0, (e134 0 _ _ _ _ _  _).trans hr⟩
  · cases hr
end Go.Proofs.Ytcklhipdldpkhaa.Rx

namespace Go.Proofs.Ytcklhipdldpkhaa.Rx
open Go
set_option linter.unusedVariables false
set_option maxRecDepth 100000
set_option maxHeartbeats 0
noncomputable def F156 : Fns := addF 134 s134 (F0)
theorem F156_ok : FnsOk tau Try.prog F156 := (F0_ok).add ok134 en134
def an156 : An := (.seq .leaf (.seq (.seq .leaf (.cond .leaf .leaf)) (.seq (.seq .leaf (.cond (.seq .leaf .leaf) .leaf)) (.seq .leaf (.seq .leaf (.seq .leaf .leaf))))))
noncomputable def g156 (f : Nat) (r_b_z : Bool) (r_b_f : Bool) (r_b : List PV) (r_e : Int) (n : Int) (k : Res → Option Res) : Option Res := bif decide (n > zi r_b.length) then bif r_e == 0 then k (Res.mk (.ro 5 true true []) [.box false 186 (PV.st 186 [.ro 5 r_b_z r_b_f r_b, .sc (.int .i64 8)])] []) else bif r_e != 0 then k (Res.mk (.ro 5 true true []) [.box false 186 (PV.st 186 [.ro 5 r_b_z r_b_f r_b, .sc (.int .i64 r_e)])] []) else bif decide (0 ≤ n) && true && decide (n.toNat ≤ r_b.length) && true then bif decide (0 ≤ n) && true && decide (n.toNat ≤ r_b.length) && decide (r_b.length ≤ r_b.length) && true then k (Res.mk (.ro 5 r_b_z (r_b_z || r_b_f && false) (List.take n.toNat r_b)) [.box false 186 (PV.st 186 [.ro 5 r_b_z (r_b_z || r_b_f && true) (List.drop n.toNat (List.take r_b.length r_b)), .sc (.int .i64 r_e)])] []) else none else none else bif r_e != 0 then k (Res.mk (.ro 5 true true []) [.box false 186 (PV.st 186 [.ro 5 r_b_z r_b_f r_b, .sc (.int .i64 r_e)])] []) else bif decide (0 ≤ n) && true && decide (n.toNat ≤ r_b.length) && true then bif decide (0 ≤ n) && true && decide (n.toNat ≤ r_b.length) && decide (r_b.length ≤ r_b.length) && true then k (Res.mk (.ro 5 r_b_z (r_b_z || r_b_f && false) (List.take n.toNat r_b)) [.box false 186 (PV.st 186 [.ro 5 r_b_z (r_b_z || r_b_f && true) (List.drop n.toNat (List.take r_b.length r_b)), .sc (.int .i64 r_e)])] []) else none else none
theorem e156 (f : Nat) (r_b_z : Bool) (r_b_f : Bool) (r_b : List PV) (r_e : Int) (n : Int) (k : Res → Option Res) : evFn tau F156 Try.f156 (Try.f156.body.get!) an156 [.ro] 0 [.ptr 0 [], .sc (.int .i64 n)] [.box false 186 (.st 186 [.ro 5 r_b_z r_b_f r_b, .sc (.int .i64 r_e)])] k = g156 f r_b_z r_b_f r_b r_e n k := by kernel_rfl
theorem it156 (f : Nat) : items (Try.f156.body.get!) an156 = [] := by kernel_rfl
theorem ia156 (f : Nat) : ∀ q ∈ items (Try.f156.body.get!) an156, q.Ok tau Try.prog 1 := by
  rw [it156 f]; intro q hq; cases hq
theorem fo156 : Try.prog.funcs[156]? = some Try.f156 := by kernel_rfl
theorem bo156 : Try.f156.body = some (Try.f156.body.get!) := by kernel_rfl
theorem en156 : Enters Try.prog 156 := enters_of fo156 (by kernel_rfl) bo156
noncomputable def run156 : List PV → List Ent → (Res → Option Res) → Option Res
  | [.ptr 0 [], .sc (.int .i64 n)], [.box false 186 (.st 186 [.ro 5 r_b_z r_b_f r_b, .sc (.int .i64 r_e)])], k => g156 0 r_b_z r_b_f r_b r_e n k
  | _, _, _ => none
noncomputable def s156 : Sig := { own := [], run := run156 }
theorem ok156 : CallOk tau Try.prog 156 s156 := fn_ok tabOk F156_ok mixed fo156 bo156 an156 [.ro] 1 [] run156 (ia156 0) fun xs es k res hr => by
  unfold run156 at hr
  split at hr
  · exact ⟨rfl, 0, (e156 0 _ _ _ _ _  _).trans hr⟩
  · cases hr
end Go.Proofs.Ytcklhipdldpkhaa.Rx

namespace Go.Proofs.Ytcklhipdldpkhaa.Rx
open Go
set_option linter.unusedVariables false
set_option linter.unusedSimpArgs false
set_option maxRecDepth 100000
set_option maxHeartbeats 1000000
structure RS where
  b : List PV
  e : Int
def byB (l : List PV) : Bool := l.all fun p => p.isInt .u8 && (decide (0 ≤ p.int) && decide (p.int < 256))
def numL : List Int → Int
  | [] => 0
  | x :: r => x + 256 * numL r
def okS0 (n : Nat) (s : RS) : Bool := s.e == 0 && Nat.ble n s.b.length
def stepS0 (n : Nat) (s : RS) : RS := bif okS0 n s then ⟨s.b.drop n, 0⟩ else ⟨s.b, bif s.e == 0 then 8 else s.e⟩
def outS0 (n : Nat) (s : RS) : List PV := bif okS0 n s then s.b.take n else []
def numS0 (n : Nat) (s : RS) : Int := IntKind.i64.wrap (numL (ints (outS0 n s)))
noncomputable def okS : Nat → RS → Bool := hid okS0
noncomputable def outS : Nat → RS → List PV := hid outS0
theorem okS_eq (n : Nat) (s : RS) : okS n s = okS0 n s := by rw [okS, hid_eq]
theorem outS_eq (n : Nat) (s : RS) : outS n s = outS0 n s := by rw [outS, hid_eq]
noncomputable def stepS : Nat → RS → RS := hid stepS0
noncomputable def numS : Nat → RS → Int := hid numS0
theorem stepS_eq (n : Nat) (s : RS) : stepS n s = stepS0 n s := by rw [stepS, hid_eq]
theorem numS_eq (n : Nat) (s : RS) : numS n s = numS0 n s := by rw [numS, hid_eq]
def txtS0 (s : RS) : RS := stepS0 (numS0 2 s).toNat (stepS0 2 s)
def txtV0 (s : RS) : ByteArray := ⟨(toBytes (outS0 (numS0 2 s).toNat (stepS0 2 s))).toArray⟩
noncomputable def txtS : RS → RS := hid txtS0
noncomputable def txtV : RS → ByteArray := hid txtV0
theorem txtS_eq (s : RS) : txtS s = txtS0 s := by rw [txtS, hid_eq]
theorem txtV_eq (s : RS) : txtV s = txtV0 s := by rw [txtV, hid_eq]
theorem byB_iff {l : List PV} : byB l = true ↔ allInt .u8 l = true ∧ ∀ x ∈ ints l, 0 ≤ x ∧ x < 256 := by
  induction l with
  | nil => simp [byB, allInt, ints]
  | cons p ps ih =>
    have e1 : byB (p :: ps) = ((p.isInt .u8 && (decide (0 ≤ p.int) && decide (p.int < 256))) && byB ps) := rfl
    have e2 : ints (p :: ps) = p.int :: ints ps := rfl
    have e3 : allInt .u8 (p :: ps) = (p.isInt .u8 && allInt .u8 ps) := rfl
    rw [e1, e2, e3]
    simp only [Bool.and_eq_true, decide_eq_true_eq, List.mem_cons, forall_eq_or_imp, ih]
    constructor
    · rintro ⟨⟨h1, h2⟩, h3, h4⟩
      exact ⟨⟨h1, h3⟩, h2, h4⟩
    · rintro ⟨⟨h1, h3⟩, h2, h4⟩
      exact ⟨⟨h1, h2⟩, h3, h4⟩
theorem byB_take {l : List PV} (h : byB l = true) (n : Nat) : byB (l.take n) = true := List.all_eq_true.2 fun p hp => List.all_eq_true.1 h p (List.mem_of_mem_take hp)
theorem byB_drop {l : List PV} (h : byB l = true) (n : Nat) : byB (l.drop n) = true := List.all_eq_true.2 fun p hp => List.all_eq_true.1 h p (List.mem_of_mem_drop hp)
theorem byB_pu {l : List Int} : byB (pu .u8 l) = true ↔ ∀ x ∈ l, 0 ≤ x ∧ x < 256 := by rw [byB_iff]; simp
theorem byB_step {s : RS} (h : byB s.b = true) (n : Nat) : byB (stepS0 n s).b = true := by
  unfold stepS0; cases okS0 n s
  · exact h
  · exact byB_drop h n
theorem byB_out {s : RS} (h : byB s.b = true) (n : Nat) : byB (outS0 n s) = true := by
  unfold outS0; cases okS0 n s
  · rfl
  · exact byB_take h n
theorem out_length (n : Nat) (s : RS) : (outS0 n s).length ≤ n := by
  unfold outS0; cases okS0 n s
  · exact Nat.zero_le _
  · simp; omega
theorem numL_bounds : ∀ (l : List Int), (∀ x ∈ l, 0 ≤ x ∧ x < 256) → 0 ≤ numL l ∧ numL l < 256 ^ l.length
  | [], h => by simp [numL]
  | x :: r, h => by
      have h1 := h x List.mem_cons_self
      have h2 := numL_bounds r fun y hy => h y (List.mem_cons_of_mem _ hy)
      simp only [numL, List.length_cons, Int.pow_succ]
      generalize (256 : Int) ^ r.length = B at *
      omega
theorem numS_small {s : RS} (h : byB s.b = true) {n : Nat} (hn : n ≤ 2) : 0 ≤ numS0 n s ∧ numS0 n s < 65536 := by
  have h1 := numL_bounds (ints (outS0 n s)) (byB_iff.1 (byB_out h n)).2
  have h2 : (ints (outS0 n s)).length ≤ 2 := by rw [ints_length]; exact Nat.le_trans (out_length n s) hn
  have h3 : (256 : Int) ^ (ints (outS0 n s)).length ≤ 65536 := by
    generalize (ints (outS0 n s)).length = m at *
    match m, h2 with
    | 0, _ => decide
    | 1, _ => decide
    | 2, _ => decide
  unfold numS0
  rw [wrap_i64 (by omega) (by omega)]; omega
structure RT where
  B : List PV
  P : Int
  e : Int
def RT.view (t : RT) : RS := ⟨t.B.drop t.P.toNat, t.e⟩
def okT (t : RT) : Bool := decide (0 ≤ t.P) && (decide (t.P ≤ (t.B.length : Int)) && (byB t.B && Nat.ble t.B.length 1000000000))
def stepT0 (n : Nat) (t : RT) : RT := bif okS0 n t.view then ⟨t.B, ((t.P.toNat + n : Nat) : Int), 0⟩ else ⟨t.B, t.P, bif t.e == 0 then 8 else t.e⟩
noncomputable def stepT : Nat → RT → RT := hid stepT0
noncomputable def numT : Nat → RT → Int := hid fun n t => numS0 n t.view
def txtT0 (t : RT) : RT := stepT0 (numS0 2 t.view).toNat (stepT0 2 t)
noncomputable def txtT : RT → RT := hid txtT0
noncomputable def txtVT : RT → ByteArray := hid fun t => txtV0 t.view
theorem stepT_eq (n : Nat) (t : RT) : stepT n t = stepT0 n t := by rw [stepT, hid_eq]
theorem numT_eq (n : Nat) (t : RT) : numT n t = numS0 n t.view := by rw [numT, hid_eq]
theorem txtT_eq (t : RT) : txtT t = txtT0 t := by rw [txtT, hid_eq]
theorem txtVT_eq (t : RT) : txtVT t = txtV0 t.view := by rw [txtVT, hid_eq]
theorem view_step (n : Nat) (t : RT) : (stepT0 n t).view = stepS0 n t.view := by
  unfold stepT0 stepS0
  cases okS0 n t.view with
  | true => simp only [cond_true, RT.view, Int.toNat_natCast, List.drop_drop]
  | false => simp only [cond_false, RT.view]
theorem view_txt (t : RT) : (txtT0 t).view = txtS0 t.view := by simp only [txtT0, txtS0, view_step]
@[simp] theorem numT_num (n : Nat) (t : RT) : numT n t = numS n t.view := by rw [numT_eq, numS_eq]
@[simp] theorem stepT_view (n : Nat) (t : RT) : (stepT n t).view = stepS n t.view := by rw [stepT_eq, stepS_eq, view_step]
@[simp] theorem txtT_view (t : RT) : (txtT t).view = txtS t.view := by rw [txtT_eq, txtS_eq, view_txt]
@[simp] theorem txtVT_txt (t : RT) : txtVT t = txtV t.view := by rw [txtVT_eq, txtV_eq]
theorem okT_step {t : RT} (h : okT t = true) (n : Nat) : okT (stepT0 n t) = true := by
  have h' := h
  simp only [okT, Bool.and_eq_true, decide_eq_true_eq, Nat.ble_eq] at h ⊢
  unfold stepT0
  cases hk : okS0 n t.view with
  | true =>
    simp only [cond_true]
    have hn : n ≤ (t.B.drop t.P.toNat).length := by
      simp only [okS0, RT.view, Bool.and_eq_true, Nat.ble_eq] at hk; exact hk.2
    rw [List.length_drop] at hn
    refine ⟨by omega, by omega, h.2.2⟩
  | false => exact h
theorem okT_txt {t : RT} (h : okT t = true) : okT (txtT0 t) = true := okT_step (okT_step h _) _
@[simp] theorem okT_stepT {t : RT} (h : okT t = true) (n : Nat) : okT (stepT n t) = true := by rw [stepT_eq]; exact okT_step h n
@[simp] theorem okT_txtT {t : RT} (h : okT t = true) : okT (txtT t) = true := by rw [txtT_eq]; exact okT_txt h
end Go.Proofs.Ytcklhipdldpkhaa.Rx

-- FN (*code.Reader).take
namespace Go.Proofs.Ytcklhipdldpkhaa.Rx
open Go
set_option linter.unusedVariables false
set_option linter.unusedSimpArgs false
set_option maxRecDepth 100000
set_option maxHeartbeats 1000000
abbrev rdP (z f : Bool) (s : RS) : Ent := .box false 186 (.st 186 [.ro 5 z f s.b, .sc (.int .i64 s.e)])
noncomputable def run156' : List PV → List Ent → (Res → Option Res) → Option Res
  | [.ptr 0 [], .sc (.int .i64 n)], [.box false 186 (.st 186 [.ro 5 z f b, .sc (.int .i64 e)])], k =>
    bif (!z || f) && decide (0 ≤ n) then k ⟨.ro 5 (!okS n.toNat ⟨b, e⟩ || z) (!okS n.toNat ⟨b, e⟩ || z) (outS n.toNat ⟨b, e⟩), [rdP z f (stepS n.toNat ⟨b, e⟩)], []⟩ else none
  | _, _, _ => none
noncomputable def s156' : Sig := { own := [], run := run156' }
theorem g156_eq (z f : Bool) (b : List PV) (e n : Int) (hz : (!z || f) = true) (hn : 0 ≤ n) (k : Res → Option Res) :
    g156 0 z f b e n k = k ⟨.ro 5 (!okS n.toNat ⟨b, e⟩ || z) (!okS n.toNat ⟨b, e⟩ || z) (outS n.toNat ⟨b, e⟩), [rdP z f (stepS n.toNat ⟨b, e⟩)], []⟩ := by
  rw [okS_eq, outS_eq, stepS_eq]
  have hzf : (z || f) = f := by cases z <;> cases f <;> simp_all
  have hz2 : (z || f && false) = z := by cases z <;> cases f <;> rfl
  unfold g156
  by_cases c1 : n > zi b.length
  · have hk : Nat.ble n.toNat b.length = false := by
      cases h : Nat.ble n.toNat b.length with
      | false => rfl
      | true => rw [Nat.ble_eq] at h; simp only [zi] at c1; omega
    rw [bif_t (by simpa using c1)]
    by_cases c2 : e = 0
    · subst c2
      simp only [beq_self_eq_true, cond_true]
      simp [okS0, outS0, stepS0, hk]
    · have hb : (e == 0) = false := by simpa using c2
      have hb2 : (e != 0) = true := by simpa using c2
      simp only [hb, hb2, cond_true, cond_false]
      simp [okS0, outS0, stepS0, hb]
  · rw [bif_f (by simpa using c1)]
    by_cases c2 : e = 0
    · subst c2
      have hk : Nat.ble n.toNat b.length = true := by rw [Nat.ble_eq]; simp only [zi] at c1; omega
      have hk' : n.toNat ≤ b.length := by rw [Nat.ble_eq] at hk; exact hk
      have h00 : ((0 : Int) != 0) = false := by decide
      simp only [h00, cond_false]
      rw [bif_t (by simp; omega), bif_t (by simp; omega)]
      simp [okS0, outS0, stepS0, hk, hzf, hz2]
    · have hb : (e == 0) = false := by simpa using c2
      have hb2 : (e != 0) = true := by simpa using c2
      simp only [hb2, cond_true]
      simp [okS0, outS0, stepS0, hb]
theorem ok156' : CallOk tau Try.prog 156 s156' := ok156.of fun xs es k res hr => by
  change run156' xs es k = some res at hr
  unfold run156' at hr
  split at hr
  · obtain ⟨hc, hr⟩ := of_bif hr
    simp only [Bool.and_eq_true, decide_eq_true_eq] at hc
    exact (g156_eq _ _ _ _ _ hc.1 hc.2 _).trans hr
  · cases hr
end Go.Proofs.Ytcklhipdldpkhaa.Rx

namespace Go.Proofs.Ytcklhipdldpkhaa.Rx
open Go
set_option linter.unusedVariables false
set_option maxRecDepth 100000
set_option maxHeartbeats 0
def N155 : Nat := 27
noncomputable def F155 : Fns := addF 156 s156' (F0)
theorem F155_ok : FnsOk tau Try.prog F155 := (F0_ok).add ok156' en156
noncomputable def c155_0 : Code := subC (Try.f155.body.get!) [1, 1, 0, 1, 0, 0]
def nm155_0 : Nm := [(5, .any), (10, .any), (11, .any), (12, .any)]
def nx155_0 : Nm := [(5, .any)]
def x155_0 : An := (.seq .leaf (.seq (.cond .leaf .leaf) (.seq (.block none (.seq .leaf .leaf)) .leaf)))
def an155 (r0 : RunL) : An := (.seq .leaf (.seq .leaf (.seq (.seq .leaf (.block none (.sum nm155_0 N155 r0))) (.seq .leaf .leaf))))
noncomputable def lpS155_0 (f : Nat) (rc : Int → Bool → Bool → List PV → Int → Int → Bool → Bool → List PV → Int → Option Res) (k0 : Int → Bool → Bool → List PV → Int → Option Res) (v0 : Int) (v1 : Bool) (v2 : Bool) (v3 : List PV) (v4 : Int) (v5 : Int) (v6 : Bool) (v7 : Bool) (v8 : List PV) (v9 : Int) : Option Res := bif decide (v5 < v4) then bif decide (0 ≤ v5) && decide (v5 < zi v3.length) && PV.isInt IntKind.u8 (v3.getD v5.toNat PV.top) && true then bif decide (0 ≤ IntKind.i64.wrap (8 * v5)) && true then rc (bitI BinOp.or IntKind.u64 v0 (shlI IntKind.u64 (IntKind.u64.wrap (v3.getD v5.toNat PV.top).int) (IntKind.i64.wrap (8 * v5)))) v1 v2 v3 v4 (IntKind.i64.wrap (v5 + 1)) v6 v7 v8 v9 else none else none else k0 v0 v6 v7 v8 v9
noncomputable def lp155_0 (f : Nat) (k0 : Int → Bool → Bool → List PV → Int → Option Res) : Nat → Int → Bool → Bool → List PV → Int → Int → Bool → Bool → List PV → Int → Option Res
  | 0, _, _, _, _, _, _, _, _, _, _ => none
  | n + 1, v0, v1, v2, v3, v4, v5, v6, v7, v8, v9 => lpS155_0 f (lp155_0 f k0 n) k0 v0 v1 v2 v3 v4 v5 v6 v7 v8 v9
theorem lpR155_0 (f : Nat) (k : Kont) (n : Nat) (v0 : Int) (v1 : Bool) (v2 : Bool) (v3 : List PV) (v4 : Int) (v5 : Int) (v6 : Bool) (v7 : Bool) (v8 : List PV) (v9 : Int) : evLoop tau 1 nm155_0 (fun s k => ev tau F155 1 0 c155_0 (x155_0 ) s k) (n + 1) (fillS nm155_0 N155 [.sc (.int .u64 v0), .ro 5 v1 v2 v3, .sc (.int .i64 v4), .sc (.int .i64 v5)] [(0, .box false 186 (PV.st 186 [.ro 5 v6 v7 v8, .sc (.int .i64 v9)]))]) (kNorm tau 1 nx155_0 k) = lpS155_0 f (fun v0 v1 v2 v3 v4 v5 v6 v7 v8 v9 => evLoop tau 1 nm155_0 (fun s k => ev tau F155 1 0 c155_0 (x155_0 ) s k) n (fillS nm155_0 N155 [.sc (.int .u64 v0), .ro 5 v1 v2 v3, .sc (.int .i64 v4), .sc (.int .i64 v5)] [(0, .box false 186 (PV.st 186 [.ro 5 v6 v7 v8, .sc (.int .i64 v9)]))]) (kNorm tau 1 nx155_0 k)) (fun x0 x1 x2 x3 x4 => k (Ex.exit 0) (fillS nx155_0 N155 [.sc (.int .u64 x0)] [(0, .box false 186 (PV.st 186 [.ro 5 x1 x2 x3, .sc (.int .i64 x4)]))])) v0 v1 v2 v3 v4 v5 v6 v7 v8 v9 := by kernel_rfl
theorem lpE155_0 (f : Nat) (k : Kont) : ∀ (n : Nat) (v0 : Int) (v1 : Bool) (v2 : Bool) (v3 : List PV) (v4 : Int) (v5 : Int) (v6 : Bool) (v7 : Bool) (v8 : List PV) (v9 : Int), evLoop tau 1 nm155_0 (fun s k => ev tau F155 1 0 c155_0 (x155_0 ) s k) n (fillS nm155_0 N155 [.sc (.int .u64 v0), .ro 5 v1 v2 v3, .sc (.int .i64 v4), .sc (.int .i64 v5)] [(0, .box false 186 (PV.st 186 [.ro 5 v6 v7 v8, .sc (.int .i64 v9)]))]) (kNorm tau 1 nx155_0 k) = lp155_0 f (fun x0 x1 x2 x3 x4 => k (Ex.exit 0) (fillS nx155_0 N155 [.sc (.int .u64 x0)] [(0, .box false 186 (PV.st 186 [.ro 5 x1 x2 x3, .sc (.int .i64 x4)]))])) n v0 v1 v2 v3 v4 v5 v6 v7 v8 v9 | 0, _, _, _, _, _, _, _, _, _, _ => rfl | n + 1, v0, v1, v2, v3, v4, v5, v6, v7, v8, v9 => (lpR155_0 f k n v0 v1 v2 v3 v4 v5 v6 v7 v8 v9).trans (congrArg (fun r => lpS155_0 f r (fun x0 x1 x2 x3 x4 => k (Ex.exit 0) (fillS nx155_0 N155 [.sc (.int .u64 x0)] [(0, .box false 186 (PV.st 186 [.ro 5 x1 x2 x3, .sc (.int .i64 x4)]))])) v0 v1 v2 v3 v4 v5 v6 v7 v8 v9) (by funext v0 v1 v2 v3 v4 v5 v6 v7 v8 v9; exact lpE155_0 f k n v0 v1 v2 v3 v4 v5 v6 v7 v8 v9))
noncomputable def r155_0 (f : Nat) : List PV → List (Nat × Ent) → Kont → Option Res
  | [.sc (.int .u64 v0), .ro 5 v1 v2 v3, .sc (.int .i64 v4),
  PV.sc
    (Value.int IntKind.i64
      v5)], [(0,
    Ent.box false 186
      (PV.st 186
        [.ro 5 v6 v7 v8,
          PV.sc
            (Value.int IntKind.i64
              v9)]))], k => lp155_0 f (fun x0 x1 x2 x3 x4 => k (Ex.exit
  0) (fillS nx155_0 N155 [.sc (.int .u64 x0)] [(0, .box false 186 (PV.st 186 [.ro 5 x1 x2 x3, .sc (.int .i64 x4)]))])) f v0 v1 v2 v3 v4 v5 v6 v7 v8 v9
  | _, _, _ => none
theorem it155_0 (f : Nat) : items c155_0 x155_0 = [] := by kernel_rfl
theorem i155_0 (f : Nat) : (Item.l c155_0 nm155_0 N155 (r155_0 f)).Ok tau Try.prog 1 := loop_item tabOk F155_ok mixed (x := x155_0) (nm2 := nx155_0) (anOk_items _ _ (by rw [it155_0 f]; intro q hq; cases hq)) fun vs hp k res hr => by
  unfold r155_0 at hr
  split at hr
  · exact ⟨f, 0, (lpE155_0 f _ f _ _ _ _ _ _ _ _ _ _ ).trans hr⟩
  · cases hr
noncomputable def g155 (f : Nat) (r_b_z : Bool) (r_b_f : Bool) (r_b : List PV) (r_e : Int) (n : Int) (k : Res → Option Res) : Option Res := bif (!r_b_z || r_b_f) && decide (0 ≤ n) then lp155_0 f (fun x0_0 x1_0 x2_0 x3_0 x4_0 => k (Res.mk (.sc (.int .i64 (IntKind.i64.wrap x0_0))) [.box false 186 (PV.st 186 [.ro 5 x1_0 x2_0 x3_0, .sc (.int .i64 x4_0)])] [])) f (0) (!okS n.toNat (RS.mk r_b r_e) || r_b_z) (!okS n.toNat (RS.mk r_b r_e) || r_b_z) (outS n.toNat (RS.mk r_b r_e)) (zi (outS n.toNat (RS.mk r_b r_e)).length) (0) r_b_z r_b_f ((stepS n.toNat (RS.mk r_b r_e)).b) ((stepS n.toNat (RS.mk r_b r_e)).e) else none
theorem e155 (f : Nat) (r_b_z : Bool) (r_b_f : Bool) (r_b : List PV) (r_e : Int) (n : Int) (k : Res → Option Res) : evFn tau F155 Try.f155 (Try.f155.body.get!) (an155 (r155_0 f)) [.ro] 0 [.ptr 0 [], .sc (.int .i64 n)] [.box false 186 (.st 186 [.ro 5 r_b_z r_b_f r_b, .sc (.int .i64 r_e)])] k = g155 f r_b_z r_b_f r_b r_e n k := by kernel_rfl
theorem it155 (f : Nat) : items (Try.f155.body.get!) (an155 (r155_0 f)) = [.l c155_0 nm155_0 N155 (r155_0 f)] := by kernel_rfl
theorem ia155 (f : Nat) : ∀ q ∈ items (Try.f155.body.get!) (an155 (r155_0 f)), q.Ok tau Try.prog 1 := by
  rw [it155 f]; simp only [List.forall_mem_cons, List.not_mem_nil, false_implies, implies_true, and_true]; exact i155_0 f
theorem fo155 : Try.prog.funcs[155]? = some Try.f155 := by kernel_rfl
theorem bo155 : Try.f155.body = some (Try.f155.body.get!) := by kernel_rfl
theorem en155 : Enters Try.prog 155 := enters_of fo155 (by kernel_rfl) bo155
end Go.Proofs.Ytcklhipdldpkhaa.Rx

-- FN (*code.Reader).number
namespace Go.Proofs.Ytcklhipdldpkhaa.Rx
open Go
set_option linter.unusedVariables false
set_option linter.unusedSimpArgs false
set_option maxRecDepth 100000
set_option maxHeartbeats 1000000
theorem numL_snoc : ∀ (l : List Int) (x : Int), numL (l ++ [x]) = numL l + x * 256 ^ l.length
  | [], x => by simp [numL]
  | y :: r, x => by
      simp only [List.cons_append, numL, numL_snoc r x, List.length_cons, Int.pow_succ]
      have : x * (256 ^ r.length * 256) = 256 * (x * 256 ^ r.length) := by rw [Int.mul_comm 256, Int.mul_assoc]
      omega
theorem pow256 (i : Nat) : (256 : Int) ^ i = 2 ^ (8 * i) := by rw [Int.pow_mul]; rfl
theorem or_apart {v y : Int} {j : Nat} (hj : j ≤ 64) (hv0 : 0 ≤ v) (hv : v < 2 ^ j) (hy0 : 0 ≤ y) (hy : y * 2 ^ j < 2 ^ 64) : bitI .or .u64 v (y * 2 ^ j) = v + y * 2 ^ j := by
  obtain ⟨a, rfl⟩ := Int.eq_ofNat_of_zero_le hv0
  obtain ⟨b, rfl⟩ := Int.eq_ofNat_of_zero_le hy0
  have e1 : ((b : Int)) * 2 ^ j = ((b * 2 ^ j : Nat) : Int) := by rw [Int.natCast_mul, Int.natCast_pow]; rfl
  have e2 : ((2 : Int)) ^ j = ((2 ^ j : Nat) : Int) := by rw [Int.natCast_pow]; rfl
  have e3 : ((2 : Int)) ^ 64 = ((2 ^ 64 : Nat) : Int) := by rw [Int.natCast_pow]; rfl
  rw [e2] at hv
  rw [e1, e3] at hy
  have ha : a < 2 ^ j := Int.ofNat_lt.1 hv
  have hb : b * 2 ^ j < 2 ^ 64 := Int.ofNat_lt.1 hy
  rw [e1]
  have hor : a ||| b * 2 ^ j = a + b * 2 ^ j := by
    have h := Nat.shiftLeft_add_eq_or_of_lt ha b
    rw [Nat.shiftLeft_eq] at h
    rw [Nat.or_comm, ← h, Nat.add_comm]
  have ha2 : a < 2 ^ 64 := Nat.lt_of_lt_of_le ha (Nat.pow_le_pow_right (by omega) hj)
  have hsum : a + b * 2 ^ j < 2 ^ 64 := by rw [← hor]; exact Nat.or_lt_two_pow ha2 hb
  generalize hc : b * 2 ^ j = c at *
  have ht : (BitVec.ofInt 64 (a : Int) ||| BitVec.ofInt 64 (c : Int)).toNat = a + c := by
    rw [BitVec.toNat_or, BitVec.ofInt_natCast, BitVec.ofInt_natCast, BitVec.toNat_ofNat, BitVec.toNat_ofNat, Nat.mod_eq_of_lt ha2, Nat.mod_eq_of_lt hb, hor]
  show IntKind.u64.wrap ((BitVec.ofInt 64 (a : Int) ||| BitVec.ofInt 64 (c : Int)).toNat : Int) = _
  rw [ht, wrap_u64_eq]
  have h64 : (2 : Nat) ^ 64 = 18446744073709551616 := by decide
  rw [h64] at hsum
  omega
theorem shl_byte {x : Int} (h0 : 0 ≤ x) (h1 : x < 256) {i : Nat} (hi : i < 8) : shlI .u64 (IntKind.u64.wrap x) (8 * (i : Int)) = x * 2 ^ (8 * i) := by
  rw [wrap_u64_eq, Int.emod_eq_of_lt h0 (by omega), shlI, wrap_u64_eq]
  have : min (8 * (i : Int)).toNat IntKind.u64.bits = 8 * i := by
    have : IntKind.u64.bits = 64 := rfl
    rw [this]; omega
  rw [this]
  have hp : (2 : Int) ^ (8 * i) ≤ 2 ^ 56 := by
    have h : (2 ^ (8 * i) : Nat) ≤ 2 ^ 56 := Nat.pow_le_pow_right (by omega) (by omega)
    have e2 : ((2 : Int)) ^ (8 * i) = ((2 ^ (8 * i) : Nat) : Int) := by rw [Int.natCast_pow]; rfl
    have e3 : ((2 : Int)) ^ 56 = ((2 ^ 56 : Nat) : Int) := by rw [Int.natCast_pow]; rfl
    rw [e2, e3]; exact Int.ofNat_le.2 h
  have hp0 : (0 : Int) ≤ 2 ^ (8 * i) := Int.le_of_lt (by have e2 : ((2 : Int)) ^ (8 * i) = ((2 ^ (8 * i) : Nat) : Int) := by rw [Int.natCast_pow]; rfl
                                                         rw [e2]; exact Int.ofNat_lt.2 (Nat.two_pow_pos _))
  have h56 : (2 : Int) ^ 56 = 72057594037927936 := by decide
  rw [h56] at hp
  have hm : x * 2 ^ (8 * i) ≤ 255 * 2 ^ (8 * i) := Int.mul_le_mul_of_nonneg_right (by omega) hp0
  have hm0 : 0 ≤ x * 2 ^ (8 * i) := Int.mul_nonneg h0 hp0
  exact Int.emod_eq_of_lt hm0 (by omega)
theorem l155_0 (L : List Int) (hL : ∀ x ∈ L, 0 ≤ x ∧ x < 256) (h8 : L.length ≤ 8) (f : Nat) (k0 : Int → Bool → Bool → List PV → Int → Option Res) (a b c d : Bool) (R : List PV) (e : Int) : ∀ (dd i n : Nat), i + dd = L.length → dd < n →
    lp155_0 f k0 n (numL (L.take i)) a b (pu .u8 L) (L.length : Int) (i : Int) c d R e = k0 (numL L) c d R e
  | 0, i, n + 1, h, hn => by
      obtain rfl : i = L.length := by omega
      simp only [lp155_0, lpS155_0, List.take_length]
      exact bif_f (by simp)
  | dd + 1, i, n + 1, h, hn => by
      have g1 : ((i : Int)).toNat = i := by omega
      have h1 : IntKind.i64.wrap ((i : Int) + 1) = ((i + 1 : Nat) : Int) := by rw [wrap_i64 (by omega) (by omega)]; omega
      have h2 : IntKind.i64.wrap (8 * (i : Int)) = 8 * (i : Int) := wrap_i64 (by omega) (by omega)
      have hi : i < L.length := by omega
      have hx := hL (L.getD i 0) (by rw [List.getD_eq_getElem?_getD, List.getElem?_eq_getElem hi]; exact List.getElem_mem hi)
      simp only [lp155_0, lpS155_0, g1, h1, h2]
      rw [pu_isInt hi, pu_int hi]
      refine (bif_t (by simp; omega)).trans ((bif_t (by simp [zi]; omega)).trans ((bif_t (by simp; omega)).trans ?_))
      have ht : L.take (i + 1) = L.take i ++ [L.getD i 0] := by
        rw [List.take_add_one, List.getD_eq_getElem?_getD, List.getElem?_eq_getElem hi]; rfl
      have hb := numL_bounds (L.take i) fun x hx => hL x (List.mem_of_mem_take hx)
      have hlen : (L.take i).length = i := by rw [List.length_take]; omega
      rw [hlen, pow256] at hb
      have hs := shl_byte hx.1 hx.2 (i := i) (by omega)
      have hlt : L.getD i 0 * 2 ^ (8 * i) < 2 ^ 64 := by
        have hp : (2 : Int) ^ (8 * i) ≤ 2 ^ 56 := by
          have h : (2 ^ (8 * i) : Nat) ≤ 2 ^ 56 := Nat.pow_le_pow_right (by omega) (by omega)
          have e2 : ((2 : Int)) ^ (8 * i) = ((2 ^ (8 * i) : Nat) : Int) := by rw [Int.natCast_pow]; rfl
          have e3 : ((2 : Int)) ^ 56 = ((2 ^ 56 : Nat) : Int) := by rw [Int.natCast_pow]; rfl
          rw [e2, e3]; exact Int.ofNat_le.2 h
        have hp0 : (0 : Int) ≤ 2 ^ (8 * i) := by omega
        have h56 : (2 : Int) ^ 56 = 72057594037927936 := by decide
        have h64 : (2 : Int) ^ 64 = 18446744073709551616 := by decide
        rw [h56] at hp; rw [h64]
        have hm : L.getD i 0 * 2 ^ (8 * i) ≤ 255 * 2 ^ (8 * i) := Int.mul_le_mul_of_nonneg_right (by omega) hp0
        omega
      rw [hs, or_apart (by omega) hb.1 hb.2 hx.1 hlt]
      have hn1 : numL (L.take i) + L.getD i 0 * 2 ^ (8 * i) = numL (L.take (i + 1)) := by
        rw [ht, numL_snoc, hlen, pow256]
      rw [hn1]
      exact l155_0 L hL h8 f k0 a b c d R e dd (i + 1) n (by omega) (by omega)
noncomputable def run155' : List PV → List Ent → (Res → Option Res) → Option Res
  | [.ptr 0 [], .sc (.int .i64 n)], [.box false 186 (.st 186 [.ro 5 z f b, .sc (.int .i64 e)])], k =>
    bif (!z || f) && (decide (0 ≤ n) && decide (n ≤ 8)) && byB b then k ⟨.sc (.int .i64 (numS n.toNat ⟨b, e⟩)), [rdP z f (stepS n.toNat ⟨b, e⟩)], []⟩ else none
  | _, _, _ => none
noncomputable def s155' : Sig := { own := [], run := run155' }
theorem g155_eq (z f : Bool) (b : List PV) (e n : Int) (hz : (!z || f) = true) (hn : 0 ≤ n) (hn8 : n ≤ 8) (hb : byB b = true) (k : Res → Option Res) :
    g155 20 z f b e n k = k ⟨.sc (.int .i64 (numS n.toNat ⟨b, e⟩)), [rdP z f (stepS n.toNat ⟨b, e⟩)], []⟩ := by
  unfold g155
  rw [bif_t (by rw [hz]; simpa using hn), numS_eq, outS_eq]
  have ho : byB (outS0 n.toNat ⟨b, e⟩) = true := byB_out hb _
  have hoi := byB_iff.1 ho
  have hl : (ints (outS0 n.toNat ⟨b, e⟩)).length ≤ 8 := by rw [ints_length]; exact Nat.le_trans (out_length _ _) (by omega)
  have hL := l155_0 (ints (outS0 n.toNat ⟨b, e⟩)) hoi.2 hl 20 (fun x0_0 x1_0 x2_0 x3_0 x4_0 => k (Res.mk (.sc (.int .i64 (IntKind.i64.wrap x0_0))) [.box false 186 (.st 186 [.ro 5 x1_0 x2_0 x3_0, .sc (.int .i64 x4_0)])] [])) (!okS n.toNat ⟨b, e⟩ || z) (!okS n.toNat ⟨b, e⟩ || z) z f (stepS n.toNat ⟨b, e⟩).b (stepS n.toNat ⟨b, e⟩).e (ints (outS0 n.toNat ⟨b, e⟩)).length 0 20 (by omega) (by omega)
  rw [← pu_ints hoi.1, ints_length] at hL
  simp only [List.take_zero, numL] at hL
  exact hL
theorem ok155' : CallOk tau Try.prog 155 s155' := CallOk.mk' fun xs es k res hl hr => by
  change run155' xs es k = some res at hr
  unfold run155' at hr
  split at hr
  · rename_i n z f b e
    obtain ⟨hc, hr⟩ := of_bif hr
    simp only [Bool.and_eq_true, decide_eq_true_eq] at hc
    exact fn_at tabOk F155_ok mixed fo155 bo155 (an155 (r155_0 20)) [.ro] 1 0 (ia155 20) hl rfl ((e155 20 z f b e n k).trans ((g155_eq z f b e n hc.1.1 hc.1.2.1 hc.1.2.2 hc.2 k).trans hr))
  · cases hr
end Go.Proofs.Ytcklhipdldpkhaa.Rx

namespace Go.Proofs.Ytcklhipdldpkhaa.Rx
open Go
set_option linter.unusedVariables false
set_option maxRecDepth 100000
set_option maxHeartbeats 0
noncomputable def F132 : Fns := addF 155 s155' (F0)
theorem F132_ok : FnsOk tau Try.prog F132 := (F0_ok).add ok155' en155
def an132 : An := (.seq .leaf (.seq .leaf .leaf))
noncomputable def g132 (f : Nat) (r_b_z : Bool) (r_b_f : Bool) (r_b : List PV) (r_e : Int) (k : Res → Option Res) : Option Res := bif (!r_b_z || r_b_f) && true && byB r_b then k (Res.mk (.sc (.int .i64 (numS 8 (RS.mk r_b r_e)))) [.box false 186 (PV.st 186 [.ro 5 r_b_z r_b_f (stepS 8 (RS.mk r_b r_e)).b, .sc (.int .i64 (stepS 8 (RS.mk r_b r_e)).e)])] []) else none
theorem e132 (f : Nat) (r_b_z : Bool) (r_b_f : Bool) (r_b : List PV) (r_e : Int) (k : Res → Option Res) : evFn tau F132 Try.f132 (Try.f132.body.get!) an132 [.ro] 0 [.ptr 0 []] [.box false 186 (.st 186 [.ro 5 r_b_z r_b_f r_b, .sc (.int .i64 r_e)])] k = g132 f r_b_z r_b_f r_b r_e k := by kernel_rfl
theorem it132 (f : Nat) : items (Try.f132.body.get!) an132 = [] := by kernel_rfl
theorem ia132 (f : Nat) : ∀ q ∈ items (Try.f132.body.get!) an132, q.Ok tau Try.prog 1 := by
  rw [it132 f]; intro q hq; cases hq
theorem fo132 : Try.prog.funcs[132]? = some Try.f132 := by kernel_rfl
theorem bo132 : Try.f132.body = some (Try.f132.body.get!) := by kernel_rfl
theorem en132 : Enters Try.prog 132 := enters_of fo132 (by kernel_rfl) bo132
noncomputable def run132 : List PV → List Ent → (Res → Option Res) → Option Res
  | [.ptr 0 []], [.box false 186 (.st 186 [.ro 5 r_b_z r_b_f r_b, .sc (.int .i64 r_e)])], k => g132 0 r_b_z r_b_f r_b r_e k
  | _, _, _ => none
noncomputable def s132 : Sig := { own := [], run := run132 }
theorem ok132 : CallOk tau Try.prog 132 s132 := fn_ok tabOk F132_ok mixed fo132 bo132 an132 [.ro] 1 [] run132 (ia132 0) fun xs es k res hr => by
  unfold run132 at hr
  split at hr
  · exact ⟨rfl, 0, (e132 0 _ _ _ _  _).trans hr⟩
  · cases hr
end Go.Proofs.Ytcklhipdldpkhaa.Rx

namespace Go.Proofs.Ytcklhipdldpkhaa.Rx
open Go
set_option linter.unusedVariables false
set_option maxRecDepth 100000
set_option maxHeartbeats 0
noncomputable def F133 : Fns := addF 155 s155' (F0)
theorem F133_ok : FnsOk tau Try.prog F133 := (F0_ok).add ok155' en155
def an133 : An := (.seq .leaf (.seq .leaf .leaf))
noncomputable def g133 (f : Nat) (r_b_z : Bool) (r_b_f : Bool) (r_b : List PV) (r_e : Int) (k : Res → Option Res) : Option Res := bif (!r_b_z || r_b_f) && true && byB r_b then k (Res.mk (.sc (.int .i64 (numS 1 (RS.mk r_b r_e)))) [.box false 186 (PV.st 186 [.ro 5 r_b_z r_b_f (stepS 1 (RS.mk r_b r_e)).b, .sc (.int .i64 (stepS 1 (RS.mk r_b r_e)).e)])] []) else none
theorem e133 (f : Nat) (r_b_z : Bool) (r_b_f : Bool) (r_b : List PV) (r_e : Int) (k : Res → Option Res) : evFn tau F133 Try.f133 (Try.f133.body.get!) an133 [.ro] 0 [.ptr 0 []] [.box false 186 (.st 186 [.ro 5 r_b_z r_b_f r_b, .sc (.int .i64 r_e)])] k = g133 f r_b_z r_b_f r_b r_e k := by kernel_rfl
theorem it133 (f : Nat) : items (Try.f133.body.get!) an133 = [] := by kernel_rfl
theorem ia133 (f : Nat) : ∀ q ∈ items (Try.f133.body.get!) an133, q.Ok tau Try.prog 1 := by
  rw [it133 f]; intro q hq; cases hq
theorem fo133 : Try.prog.funcs[133]? = some Try.f133 := by kernel_rfl
theorem bo133 : Try.f133.body = some (Try.f133.body.get!) := by kernel_rfl
theorem en133 : Enters Try.prog 133 := enters_of fo133 (by kernel_rfl) bo133
noncomputable def run133 : List PV → List Ent → (Res → Option Res) → Option Res
  | [.ptr 0 []], [.box false 186 (.st 186 [.ro 5 r_b_z r_b_f r_b, .sc (.int .i64 r_e)])], k => g133 0 r_b_z r_b_f r_b r_e k
  | _, _, _ => none
noncomputable def s133 : Sig := { own := [], run := run133 }
theorem ok133 : CallOk tau Try.prog 133 s133 := fn_ok tabOk F133_ok mixed fo133 bo133 an133 [.ro] 1 [] run133 (ia133 0) fun xs es k res hr => by
  unfold run133 at hr
  split at hr
  · exact ⟨rfl, 0, (e133 0 _ _ _ _  _).trans hr⟩
  · cases hr
end Go.Proofs.Ytcklhipdldpkhaa.Rx

namespace Go.Proofs.Ytcklhipdldpkhaa.Rx
open Go
set_option linter.unusedVariables false
set_option maxRecDepth 100000
set_option maxHeartbeats 0
noncomputable def F135 : Fns := addF 156 s156' (addF 155 s155' (F0))
theorem F135_ok : FnsOk tau Try.prog F135 := ((F0_ok).add ok155' en155).add ok156' en156
def an135 : An := (.seq .leaf (.seq .leaf (.seq .leaf .leaf)))
noncomputable def g135 (f : Nat) (r_b_z : Bool) (r_b_f : Bool) (r_b : List PV) (r_e : Int) (k : Res → Option Res) : Option Res := bif (!r_b_z || r_b_f) && true && byB r_b then bif (!r_b_z || r_b_f) && decide (0 ≤ numS 2 (RS.mk r_b r_e)) then bif allInt IntKind.u8 (outS (numS 2 (RS.mk r_b r_e)).toNat (stepS 2 (RS.mk r_b r_e))) && true then k (Res.mk (.sc (.string (ByteArray.mk (Array.mk (toBytes (!okS (numS 2 (RS.mk r_b r_e)).toNat (RS.mk (stepS 2 (RS.mk r_b r_e)).b (stepS 2 (RS.mk r_b r_e)).e) || r_b_z, outS (numS 2 (RS.mk r_b r_e)).toNat (stepS 2 (RS.mk r_b r_e))).snd))))) [.box false 186 (PV.st 186 [.ro 5 r_b_z r_b_f (stepS (numS 2 (RS.mk r_b r_e)).toNat (stepS 2 (RS.mk r_b r_e))).b, .sc (.int .i64 (stepS (numS 2 (RS.mk r_b r_e)).toNat (stepS 2 (RS.mk r_b r_e))).e)])] []) else none else none else none
theorem e135 (f : Nat) (r_b_z : Bool) (r_b_f : Bool) (r_b : List PV) (r_e : Int) (k : Res → Option Res) : evFn tau F135 Try.f135 (Try.f135.body.get!) an135 [.ro] 0 [.ptr 0 []] [.box false 186 (.st 186 [.ro 5 r_b_z r_b_f r_b, .sc (.int .i64 r_e)])] k = g135 f r_b_z r_b_f r_b r_e k := by kernel_rfl
theorem it135 (f : Nat) : items (Try.f135.body.get!) an135 = [] := by kernel_rfl
theorem ia135 (f : Nat) : ∀ q ∈ items (Try.f135.body.get!) an135, q.Ok tau Try.prog 1 := by
  rw [it135 f]; intro q hq; cases hq
theorem fo135 : Try.prog.funcs[135]? = some Try.f135 := by kernel_rfl
theorem bo135 : Try.f135.body = some (Try.f135.body.get!) := by kernel_rfl
theorem en135 : Enters Try.prog 135 := enters_of fo135 (by kernel_rfl) bo135
noncomputable def run135 : List PV → List Ent → (Res → Option Res) → Option Res
  | [.ptr 0 []], [.box false 186 (.st 186 [.ro 5 r_b_z r_b_f r_b, .sc (.int .i64 r_e)])], k => g135 0 r_b_z r_b_f r_b r_e k
  | _, _, _ => none
noncomputable def s135 : Sig := { own := [], run := run135 }
theorem ok135 : CallOk tau Try.prog 135 s135 := fn_ok tabOk F135_ok mixed fo135 bo135 an135 [.ro] 1 [] run135 (ia135 0) fun xs es k res hr => by
  unfold run135 at hr
  split at hr
  · exact ⟨rfl, 0, (e135 0 _ _ _ _  _).trans hr⟩
  · cases hr
end Go.Proofs.Ytcklhipdldpkhaa.Rx

-- FN (*code.Reader).Text
namespace Go.Proofs.Ytcklhipdldpkhaa.Rx
open Go
set_option linter.unusedVariables false
set_option linter.unusedSimpArgs false
set_option maxRecDepth 100000
noncomputable def run135' : List PV → List Ent → (Res → Option Res) → Option Res
  | [.ptr 0 []], [.box false 186 (.st 186 [.ro 5 z f b, .sc (.int .i64 e)])], k =>
    bif (!z || f) && byB b then k ⟨.sc (.string (txtV ⟨b, e⟩)), [rdP z f (txtS ⟨b, e⟩)], []⟩ else none
  | _, _, _ => none
noncomputable def s135' : Sig := { own := [], run := run135' }
theorem ok135' : CallOk tau Try.prog 135 s135' := ok135.of fun xs es k res hr => by
  change run135' xs es k = some res at hr
  unfold run135' at hr
  split at hr
  · rename_i z f b e
    obtain ⟨hc, hr⟩ := of_bif hr
    simp only [Bool.and_eq_true] at hc
    show g135 0 z f b e k = some res
    have hn := (numS_small (s := ⟨b, e⟩) hc.2 (n := 2) (by omega)).1
    have ho := (byB_iff.1 (byB_out (s := stepS0 2 ⟨b, e⟩) (byB_step (s := ⟨b, e⟩) hc.2 2) (numS0 2 ⟨b, e⟩).toNat)).1
    unfold g135
    simp only [numS_eq, stepS_eq, outS_eq]
    rw [bif_t (by rw [hc.1, hc.2]; rfl), bif_t (by rw [hc.1]; simpa using hn), bif_t (by rw [ho]; rfl)]
    rw [txtV_eq, txtS_eq] at hr
    exact hr
  · cases hr
end Go.Proofs.Ytcklhipdldpkhaa.Rx

namespace Go.Proofs.Ytcklhipdldpkhaa.Rx
open Go
set_option linter.unusedVariables false
set_option maxRecDepth 100000
set_option maxHeartbeats 0
end Go.Proofs.Ytcklhipdldpkhaa.Rx

namespace Go.Proofs.Ytcklhipdldpkhaa.Rx
open Go
set_option linter.unusedVariables false
set_option linter.unusedSimpArgs false
set_option maxRecDepth 100000
end Go.Proofs.Ytcklhipdldpkhaa.Rx

namespace Go.Proofs.Ytcklhipdldpkhaa.Rx
open Go
set_option linter.unusedVariables false
set_option maxRecDepth 100000
set_option maxHeartbeats 0
end Go.Proofs.Ytcklhipdldpkhaa.Rx

namespace Go.Proofs.Ytcklhipdldpkhaa.Rx
open Go
set_option linter.unusedVariables false
set_option maxRecDepth 100000
set_option maxHeartbeats 0
end Go.Proofs.Ytcklhipdldpkhaa.Rx

-- FN (*ref1.Reader).take
namespace Go.Proofs.Ytcklhipdldpkhaa.Rx
open Go
set_option linter.unusedVariables false
set_option linter.unusedSimpArgs false
set_option maxRecDepth 100000
set_option maxHeartbeats 1000000
end Go.Proofs.Ytcklhipdldpkhaa.Rx

namespace Go.Proofs.Ytcklhipdldpkhaa.Rx
open Go
set_option linter.unusedVariables false
set_option maxRecDepth 100000
set_option maxHeartbeats 0
end Go.Proofs.Ytcklhipdldpkhaa.Rx

namespace Go.Proofs.Ytcklhipdldpkhaa.Rx
open Go
set_option linter.unusedVariables false
set_option maxRecDepth 100000
set_option maxHeartbeats 0
end Go.Proofs.Ytcklhipdldpkhaa.Rx

namespace Go.Proofs.Ytcklhipdldpkhaa.Rx
open Go
set_option linter.unusedVariables false
set_option maxRecDepth 100000
set_option maxHeartbeats 0
end Go.Proofs.Ytcklhipdldpkhaa.Rx

-- FN (*ref1.Reader).Int | (*ref1.Reader).Byte | (*ref1.Reader).Text
namespace Go.Proofs.Ytcklhipdldpkhaa.Rx
open Go
set_option linter.unusedVariables false
set_option linter.unusedSimpArgs false
set_option maxRecDepth 100000
set_option maxHeartbeats 1000000
end Go.Proofs.Ytcklhipdldpkhaa.Rx

namespace Go.Proofs.Ytcklhipdldpkhaa.Rx
open Go
set_option linter.unusedVariables false
set_option maxRecDepth 100000
set_option maxHeartbeats 0
end Go.Proofs.Ytcklhipdldpkhaa.Rx

namespace Go.Proofs.Ytcklhipdldpkhaa.Rx
open Go
set_option linter.unusedVariables false
set_option maxRecDepth 100000
set_option maxHeartbeats 0
noncomputable def F149 : Fns := F0
theorem F149_ok : FnsOk tau Try.prog F149 := F0_ok
def an149 : An := (.seq .leaf (.seq .leaf (.seq .leaf .leaf)))
noncomputable def g149 (f : Nat) (x : Int) (k1 : Int) (k : Res → Option Res) : Option Res := bif decide (0 ≤ IntKind.u64.wrap (32 - bitI BinOp.and IntKind.u64 (IntKind.u64.wrap k1) 31)) && true then k (Res.mk (.sc (.int .u32 (bitI BinOp.or IntKind.u32 (shlI IntKind.u32 x (bitI BinOp.and IntKind.u64 (IntKind.u64.wrap k1) 31)) (shrI IntKind.u32 x (IntKind.u64.wrap (32 - bitI BinOp.and IntKind.u64 (IntKind.u64.wrap k1) 31)))))) [] []) else none
theorem e149 (f : Nat) (x : Int) (k1 : Int) (k : Res → Option Res) : evFn tau F149 Try.f149 (Try.f149.body.get!) an149 [.ro] 0 [.sc (.int .u32 x), .sc (.int .i64 k1)] [] k = g149 f x k1 k := by kernel_rfl
theorem it149 (f : Nat) : items (Try.f149.body.get!) an149 = [] := by kernel_rfl
theorem ia149 (f : Nat) : ∀ q ∈ items (Try.f149.body.get!) an149, q.Ok tau Try.prog 0 := by
  rw [it149 f]; intro q hq; cases hq
theorem fo149 : Try.prog.funcs[149]? = some Try.f149 := by kernel_rfl
theorem bo149 : Try.f149.body = some (Try.f149.body.get!) := by kernel_rfl
theorem en149 : Enters Try.prog 149 := enters_of fo149 (by kernel_rfl) bo149
noncomputable def run149 : List PV → List Ent → (Res → Option Res) → Option Res
  | [.sc (.int .u32 x), .sc (.int .i64 k1)], [], k => g149 0 x k1 k
  | _, _, _ => none
noncomputable def s149 : Sig := { own := [], run := run149 }
theorem ok149 : CallOk tau Try.prog 149 s149 := fn_ok tabOk F149_ok mixed fo149 bo149 an149 [.ro] 0 [] run149 (ia149 0) fun xs es k res hr => by
  unfold run149 at hr
  split at hr
  · exact ⟨rfl, 0, (e149 0 _ _  _).trans hr⟩
  · cases hr
end Go.Proofs.Ytcklhipdldpkhaa.Rx

namespace Go.Proofs.Ytcklhipdldpkhaa.Rx
open Go
set_option linter.unusedVariables false
set_option maxRecDepth 100000
set_option maxHeartbeats 0
noncomputable def F124 : Fns := addF 149 s149 (F0)
theorem F124_ok : FnsOk tau Try.prog F124 := (F0_ok).add ok149 en149
def an124 : An := (.seq .leaf (.seq .leaf .leaf))
noncomputable def g124 (f : Nat) (x : Int) (n : Int) (k : Res → Option Res) : Option Res := bif decide (0 ≤ IntKind.u64.wrap (32 - bitI BinOp.and IntKind.u64 (IntKind.u64.wrap (IntKind.i64.wrap (0 - n))) 31)) && true then k (Res.mk (.sc (.int .u32 (bitI BinOp.or IntKind.u32 (shlI IntKind.u32 x (bitI BinOp.and IntKind.u64 (IntKind.u64.wrap (IntKind.i64.wrap (0 - n))) 31)) (shrI IntKind.u32 x (IntKind.u64.wrap (32 - bitI BinOp.and IntKind.u64 (IntKind.u64.wrap (IntKind.i64.wrap (0 - n))) 31)))))) [] []) else none
theorem e124 (f : Nat) (x : Int) (n : Int) (k : Res → Option Res) : evFn tau F124 Try.f124 (Try.f124.body.get!) an124 [.ro] 0 [.sc (.int .u32 x), .sc (.int .i64 n)] [] k = g124 f x n k := by kernel_rfl
theorem it124 (f : Nat) : items (Try.f124.body.get!) an124 = [] := by kernel_rfl
theorem ia124 (f : Nat) : ∀ q ∈ items (Try.f124.body.get!) an124, q.Ok tau Try.prog 0 := by
  rw [it124 f]; intro q hq; cases hq
theorem fo124 : Try.prog.funcs[124]? = some Try.f124 := by kernel_rfl
theorem bo124 : Try.f124.body = some (Try.f124.body.get!) := by kernel_rfl
theorem en124 : Enters Try.prog 124 := enters_of fo124 (by kernel_rfl) bo124
noncomputable def run124 : List PV → List Ent → (Res → Option Res) → Option Res
  | [.sc (.int .u32 x), .sc (.int .i64 n)], [], k => g124 0 x n k
  | _, _, _ => none
noncomputable def s124 : Sig := { own := [], run := run124 }
theorem ok124 : CallOk tau Try.prog 124 s124 := fn_ok tabOk F124_ok mixed fo124 bo124 an124 [.ro] 0 [] run124 (ia124 0) fun xs es k res hr => by
  unfold run124 at hr
  split at hr
  · exact ⟨rfl, 0, (e124 0 _ _  _).trans hr⟩
  · cases hr
end Go.Proofs.Ytcklhipdldpkhaa.Rx

namespace Go.Proofs.Ytcklhipdldpkhaa.Rx
open Go
set_option linter.unusedVariables false
set_option maxRecDepth 100000
set_option maxHeartbeats 0
noncomputable def F73 : Fns := F0
theorem F73_ok : FnsOk tau Try.prog F73 := F0_ok
def an73 : An := (.seq .leaf (.seq .leaf .leaf))
noncomputable def g73 (f : Nat) (x : Int) (n : Int) (k : Res → Option Res) : Option Res := bif decide (0 ≤ n) && true then bif decide (0 ≤ IntKind.u64.wrap (32 - n)) && true then k (Res.mk (.sc (.int .u32 (bitI BinOp.or IntKind.u32 (shrI IntKind.u32 x n) (shlI IntKind.u32 x (IntKind.u64.wrap (32 - n)))))) [] []) else none else none
theorem e73 (f : Nat) (x : Int) (n : Int) (k : Res → Option Res) : evFn tau F73 Try.f73 (Try.f73.body.get!) an73 [.ro] 0 [.sc (.int .u32 x), .sc (.int .u64 n)] [] k = g73 f x n k := by kernel_rfl
theorem it73 (f : Nat) : items (Try.f73.body.get!) an73 = [] := by kernel_rfl
theorem ia73 (f : Nat) : ∀ q ∈ items (Try.f73.body.get!) an73, q.Ok tau Try.prog 0 := by
  rw [it73 f]; intro q hq; cases hq
theorem fo73 : Try.prog.funcs[73]? = some Try.f73 := by kernel_rfl
theorem bo73 : Try.f73.body = some (Try.f73.body.get!) := by kernel_rfl
theorem en73 : Enters Try.prog 73 := enters_of fo73 (by kernel_rfl) bo73
noncomputable def run73 : List PV → List Ent → (Res → Option Res) → Option Res
  | [.sc (.int .u32 x), .sc (.int .u64 n)], [], k => g73 0 x n k
  | _, _, _ => none
noncomputable def s73 : Sig := { own := [], run := run73 }
theorem ok73 : CallOk tau Try.prog 73 s73 := fn_ok tabOk F73_ok mixed fo73 bo73 an73 [.ro] 0 [] run73 (ia73 0) fun xs es k res hr => by
  unfold run73 at hr
  split at hr
  · exact ⟨rfl, 0, (e73 0 _ _  _).trans hr⟩
  · cases hr
end Go.Proofs.Ytcklhipdldpkhaa.Rx

-- FN sha.right | ref2.rot
namespace Go.Proofs.Ytcklhipdldpkhaa.Rx
open Go
set_option linter.unusedVariables false
set_option maxRecDepth 100000
set_option maxHeartbeats 4000000
def rr (x n : Int) : Int := bitI .or .u32 (shlI .u32 x (32 - n)) (shrI .u32 x n)
theorem bitI_or_comm (x y : Int) : bitI .or .u32 x y = bitI .or .u32 y x := by
  simp only [bitI]; rw [BitVec.or_comm]
theorem small {P : Int → Prop} (h : ∀ m : Nat, m < 31 → P ((m : Int) + 1)) (n : Int) (h1 : 1 ≤ n) (h2 : n ≤ 31) : P n := by
  have := h (n - 1).toNat (by omega)
  have he : (((n - 1).toNat : Nat) : Int) + 1 = n := by omega
  rwa [he] at this
def run124' : List PV → List Ent → (Res → Option Res) → Option Res
  | [.sc (.int .u32 x), .sc (.int .i64 n)], [], k => bif decide (1 ≤ n) && decide (n ≤ 31) then k ⟨.sc (.int .u32 (rr x n)), [], []⟩ else none
  | _, _, _ => none
def s124' : Sig := { own := [], run := run124' }
theorem g124_small (x : Int) (k : Res → Option Res) (n : Int) (h1 : 1 ≤ n) (h2 : n ≤ 31) : g124 0 x n k = k ⟨.sc (.int .u32 (rr x n)), [], []⟩ := by
  refine small (P := fun n => g124 0 x n k = k ⟨.sc (.int .u32 (rr x n)), [], []⟩) ?_ n h1 h2
  intro m hm
  iterate 31 (rcases m with _ | m; · kernel_rfl)
  omega
theorem ok124' : CallOk tau Try.prog 124 s124' := ok124.of fun xs es k res hr => by
  change run124' xs es k = some res at hr
  unfold run124' at hr
  split at hr
  · obtain ⟨hc, hr⟩ := of_bif hr
    simp only [Bool.and_eq_true, decide_eq_true_eq] at hc
    exact (g124_small _ _ _ hc.1 hc.2).trans hr
  · cases hr
def run73' : List PV → List Ent → (Res → Option Res) → Option Res
  | [.sc (.int .u32 x), .sc (.int .u64 n)], [], k => bif decide (1 ≤ n) && decide (n ≤ 31) then k ⟨.sc (.int .u32 (rr x n)), [], []⟩ else none
  | _, _, _ => none
def s73' : Sig := { own := [], run := run73' }
theorem g73_small (x : Int) (k : Res → Option Res) (n : Int) (h1 : 1 ≤ n) (h2 : n ≤ 31) : g73 0 x n k = k ⟨.sc (.int .u32 (rr x n)), [], []⟩ := by
  have hc : ∀ n, rr x n = bitI .or .u32 (shrI .u32 x n) (shlI .u32 x (32 - n)) := fun n => bitI_or_comm _ _
  rw [hc]
  refine small (P := fun n => g73 0 x n k = k ⟨.sc (.int .u32 (bitI .or .u32 (shrI .u32 x n) (shlI .u32 x (32 - n)))), [], []⟩) ?_ n h1 h2
  intro m hm
  iterate 31 (rcases m with _ | m; · kernel_rfl)
  omega
theorem ok73' : CallOk tau Try.prog 73 s73' := ok73.of fun xs es k res hr => by
  change run73' xs es k = some res at hr
  unfold run73' at hr
  split at hr
  · obtain ⟨hc, hr⟩ := of_bif hr
    simp only [Bool.and_eq_true, decide_eq_true_eq] at hc
    exact (g73_small _ _ _ hc.1 hc.2).trans hr
  · cases hr
end Go.Proofs.Ytcklhipdldpkhaa.Rx

namespace Go.Proofs.Ytcklhipdldpkhaa.Rx
open Go
set_option linter.unusedVariables false
set_option maxRecDepth 100000
set_option maxHeartbeats 0
def N122 : Nat := 89
noncomputable def F122 : Fns := addF 124 s124' (F0)
theorem F122_ok : FnsOk tau Try.prog F122 := (F0_ok).add ok124' en124
noncomputable def c122_0 : Code := subC (Try.f122.body.get!) [1, 1, 0, 1, 0, 0]
def nm122_0 : Nm := [(0, .any), (2, .any), (3, .any), (8, .any)]
def nx122_0 : Nm := [(2, .any), (3, .any)]
def x122_0 : An := (.seq .leaf (.seq (.cond .leaf .leaf) (.seq (.block none (.seq .leaf .leaf)) .leaf)))
noncomputable def c122_1 : Code := subC (Try.f122.body.get!) [1, 1, 1, 0, 1, 0, 0]
def nm122_1 : Nm := [(2, .any), (3, .any), (5, .any)]
def nx122_1 : Nm := [(2, .any), (3, .any)]
def x122_1 : An := (.seq (.seq .leaf (.cond .leaf .leaf)) (.seq (.block none (.seq .leaf .leaf)) .leaf))
def an122 (r0 : RunL) (r1 : RunL) : An := (.seq .leaf (.seq .leaf (.seq (.seq .leaf (.block none (.sum nm122_0 N122 r0))) (.seq (.seq .leaf (.block none (.sum nm122_1 N122 r1))) (.seq .leaf .leaf)))))
noncomputable def lpS122_0 (f : Nat) (rc : Bool → Bool → List PV → Int → List PV → List PV → Option Res) (k0 : List PV → List PV → Option Res) (v0 : Bool) (v1 : Bool) (v2 : List PV) (v3 : Int) (v4 : List PV) (v5 : List PV) : Option Res := bif decide (v3 < 16) then bif decide (0 ≤ IntKind.i64.wrap (4 * v3)) && decide (IntKind.i64.wrap (4 * v3) < zi v2.length) && PV.isInt IntKind.u8 (v2.getD (IntKind.i64.wrap (4 * v3)).toNat PV.top) && true then bif decide (0 ≤ IntKind.i64.wrap (IntKind.i64.wrap (4 * v3) + 1)) && decide (IntKind.i64.wrap (IntKind.i64.wrap (4 * v3) + 1) < zi v2.length) && PV.isInt IntKind.u8 (v2.getD (IntKind.i64.wrap (IntKind.i64.wrap (4 * v3) + 1)).toNat PV.top) && true then bif decide (0 ≤ IntKind.i64.wrap (IntKind.i64.wrap (4 * v3) + 2)) && decide (IntKind.i64.wrap (IntKind.i64.wrap (4 * v3) + 2) < zi v2.length) && PV.isInt IntKind.u8 (v2.getD (IntKind.i64.wrap (IntKind.i64.wrap (4 * v3) + 2)).toNat PV.top) && true then bif decide (0 ≤ IntKind.i64.wrap (IntKind.i64.wrap (4 * v3) + 3)) && decide (IntKind.i64.wrap (IntKind.i64.wrap (4 * v3) + 3) < zi v2.length) && PV.isInt IntKind.u8 (v2.getD (IntKind.i64.wrap (IntKind.i64.wrap (4 * v3) + 3)).toNat PV.top) && true then bif decide (0 ≤ v3) && decide (v3 < zi 64) && true then rc v0 v1 v2 (IntKind.i64.wrap (v3 + 1)) v4 (v5.set v3.toNat (.sc (.int .u32 (bitI BinOp.or IntKind.u32 (bitI BinOp.or IntKind.u32 (bitI BinOp.or IntKind.u32 (shlI IntKind.u32 (IntKind.u32.wrap (v2.getD (IntKind.i64.wrap (4 * v3)).toNat PV.top).int) 24) (shlI IntKind.u32 (IntKind.u32.wrap (v2.getD (IntKind.i64.wrap (IntKind.i64.wrap (4 * v3) + 1)).toNat PV.top).int) 16)) (shlI IntKind.u32 (IntKind.u32.wrap (v2.getD (IntKind.i64.wrap (IntKind.i64.wrap (4 * v3) + 2)).toNat PV.top).int) 8)) (IntKind.u32.wrap (v2.getD (IntKind.i64.wrap (IntKind.i64.wrap (4 * v3) + 3)).toNat PV.top).int))))) else none else none else none else none else none else k0 v4 v5
noncomputable def lp122_0 (f : Nat) (k0 : List PV → List PV → Option Res) : Nat → Bool → Bool → List PV → Int → List PV → List PV → Option Res
  | 0, _, _, _, _, _, _ => none
  | n + 1, v0, v1, v2, v3, v4, v5 => lpS122_0 f (lp122_0 f k0 n) k0 v0 v1 v2 v3 v4 v5
theorem lpR122_0 (f : Nat) (k : Kont) (n : Nat) (v0 : Bool) (v1 : Bool) (v2 : List PV) (v3 : Int) (v4 : List PV) (v5 : List PV) : evLoop tau 0 nm122_0 (fun s k => ev tau F122 0 0 c122_0 (x122_0 ) s k) (n + 1) (fillS nm122_0 N122 [.ro 5 v0 v1 v2, .ptr 1440 [], .ptr 1441 [], .sc (.int .i64 v3)] [(1440, .box false 118 (PV.ar 118 v4)), (1441, .box false 118 (PV.ar 118 v5))]) (kNorm tau 0 nx122_0 k) = lpS122_0 f (fun v0 v1 v2 v3 v4 v5 => evLoop tau 0 nm122_0 (fun s k => ev tau F122 0 0 c122_0 (x122_0 ) s k) n (fillS nm122_0 N122 [.ro 5 v0 v1 v2, .ptr 1440 [], .ptr 1441 [], .sc (.int .i64 v3)] [(1440, .box false 118 (PV.ar 118 v4)), (1441, .box false 118 (PV.ar 118 v5))]) (kNorm tau 0 nx122_0 k)) (fun x0 x1 => k (Ex.exit 0) (fillS nx122_0 N122 [.ptr 1440 [], .ptr 1441 []] [(1440, .box false 118 (PV.ar 118 x0)), (1441, .box false 118 (PV.ar 118 x1))])) v0 v1 v2 v3 v4 v5 := by kernel_rfl
theorem lpE122_0 (f : Nat) (k : Kont) : ∀ (n : Nat) (v0 : Bool) (v1 : Bool) (v2 : List PV) (v3 : Int) (v4 : List PV) (v5 : List PV), evLoop tau 0 nm122_0 (fun s k => ev tau F122 0 0 c122_0 (x122_0 ) s k) n (fillS nm122_0 N122 [.ro 5 v0 v1 v2, .ptr 1440 [], .ptr 1441 [], .sc (.int .i64 v3)] [(1440, .box false 118 (PV.ar 118 v4)), (1441, .box false 118 (PV.ar 118 v5))]) (kNorm tau 0 nx122_0 k) = lp122_0 f (fun x0 x1 => k (Ex.exit 0) (fillS nx122_0 N122 [.ptr 1440 [], .ptr 1441 []] [(1440, .box false 118 (PV.ar 118 x0)), (1441, .box false 118 (PV.ar 118 x1))])) n v0 v1 v2 v3 v4 v5 | 0, _, _, _, _, _, _ => rfl | n + 1, v0, v1, v2, v3, v4, v5 => (lpR122_0 f k n v0 v1 v2 v3 v4 v5).trans (congrArg (fun r => lpS122_0 f r (fun x0 x1 => k (Ex.exit 0) (fillS nx122_0 N122 [.ptr 1440 [], .ptr 1441 []] [(1440, .box false 118 (PV.ar 118 x0)), (1441, .box false 118 (PV.ar 118 x1))])) v0 v1 v2 v3 v4 v5) (by funext v0 v1 v2 v3 v4 v5; exact lpE122_0 f k n v0 v1 v2 v3 v4 v5))
noncomputable def r122_0 (f : Nat) : List PV → List (Nat × Ent) → Kont → Option Res
  | [.ro 5 v0 v1 v2, .ptr 1440 [], .ptr 1441 [],
  PV.sc
    (Value.int IntKind.i64
      v3)], [(1440, .box false 118 (PV.ar 118 v4)),
  (1441,
    Ent.box false 118
      (PV.ar 118
        v5))], k => lp122_0 f (fun x0 x1 => k (Ex.exit
  0) (fillS nx122_0 N122 [.ptr 1440 [], .ptr 1441 []] [(1440, .box false 118 (PV.ar 118 x0)), (1441, .box false 118 (PV.ar 118 x1))])) f v0 v1 v2 v3 v4 v5
  | _, _, _ => none
theorem it122_0 (f : Nat) : items c122_0 x122_0 = [] := by kernel_rfl
theorem i122_0 (f : Nat) : (Item.l c122_0 nm122_0 N122 (r122_0 f)).Ok tau Try.prog 0 := loop_item tabOk F122_ok mixed (x := x122_0) (nm2 := nx122_0) (anOk_items _ _ (by rw [it122_0 f]; intro q hq; cases hq)) fun vs hp k res hr => by
  unfold r122_0 at hr
  split at hr
  · exact ⟨f, 0, (lpE122_0 f _ f _ _ _ _ _ _ ).trans hr⟩
  · cases hr
noncomputable def lpS122_1 (f : Nat) (rc : Int → List PV → List PV → Option Res) (k0 : List PV → List PV → Option Res) (v0 : Int) (v1 : List PV) (v2 : List PV) : Option Res := bif decide (v0 < 64) then bif decide (0 ≤ IntKind.i64.wrap (v0 - 15)) && decide (IntKind.i64.wrap (v0 - 15) < zi 64) && true then bif PV.isInt IntKind.u32 (getP (PV.ar 118 v2) [(IntKind.i64.wrap (v0 - 15)).toNat]) && true then bif decide (0 ≤ IntKind.i64.wrap (v0 - 2)) && decide (IntKind.i64.wrap (v0 - 2) < zi 64) && true then bif PV.isInt IntKind.u32 (getP (PV.ar 118 v2) [(IntKind.i64.wrap (v0 - 2)).toNat]) && true then bif decide (0 ≤ IntKind.i64.wrap (v0 - 16)) && decide (IntKind.i64.wrap (v0 - 16) < zi 64) && true then bif PV.isInt IntKind.u32 (getP (PV.ar 118 v2) [(IntKind.i64.wrap (v0 - 16)).toNat]) && true then bif decide (0 ≤ IntKind.i64.wrap (v0 - 7)) && decide (IntKind.i64.wrap (v0 - 7) < zi 64) && true then bif PV.isInt IntKind.u32 (getP (PV.ar 118 v2) [(IntKind.i64.wrap (v0 - 7)).toNat]) && true then bif decide (0 ≤ v0) && decide (v0 < zi 64) && true then rc (IntKind.i64.wrap (v0 + 1)) v1 (v2.set v0.toNat (.sc (.int .u32 (IntKind.u32.wrap (IntKind.u32.wrap (IntKind.u32.wrap ((getP (PV.ar 118 v2) [(IntKind.i64.wrap (v0 - 16)).toNat]).int + bitI BinOp.xor IntKind.u32 (bitI BinOp.xor IntKind.u32 (rr (getP (PV.ar 118 v2) [(IntKind.i64.wrap (v0 - 15)).toNat]).int 7) (rr (getP (PV.ar 118 v2) [(IntKind.i64.wrap (v0 - 15)).toNat]).int 18)) (shrI IntKind.u32 (getP (PV.ar 118 v2) [(IntKind.i64.wrap (v0 - 15)).toNat]).int 3)) + (getP (PV.ar 118 v2) [(IntKind.i64.wrap (v0 - 7)).toNat]).int) + bitI BinOp.xor IntKind.u32 (bitI BinOp.xor IntKind.u32 (rr (getP (PV.ar 118 v2) [(IntKind.i64.wrap (v0 - 2)).toNat]).int 17) (rr (getP (PV.ar 118 v2) [(IntKind.i64.wrap (v0 - 2)).toNat]).int 19)) (shrI IntKind.u32 (getP (PV.ar 118 v2) [(IntKind.i64.wrap (v0 - 2)).toNat]).int 10)))))) else none else none else none else none else none else none else none else none else none else k0 v1 v2
noncomputable def lp122_1 (f : Nat) (k0 : List PV → List PV → Option Res) : Nat → Int → List PV → List PV → Option Res
  | 0, _, _, _ => none
  | n + 1, v0, v1, v2 => lpS122_1 f (lp122_1 f k0 n) k0 v0 v1 v2
theorem lpR122_1 (f : Nat) (k : Kont) (n : Nat) (v0 : Int) (v1 : List PV) (v2 : List PV) : evLoop tau 0 nm122_1 (fun s k => ev tau F122 0 0 c122_1 (x122_1 ) s k) (n + 1) (fillS nm122_1 N122 [.ptr 1440 [], .ptr 1441 [], .sc (.int .i64 v0)] [(1440, .box false 118 (PV.ar 118 v1)), (1441, .box false 118 (PV.ar 118 v2))]) (kNorm tau 0 nx122_1 k) = lpS122_1 f (fun v0 v1 v2 => evLoop tau 0 nm122_1 (fun s k => ev tau F122 0 0 c122_1 (x122_1 ) s k) n (fillS nm122_1 N122 [.ptr 1440 [], .ptr 1441 [], .sc (.int .i64 v0)] [(1440, .box false 118 (PV.ar 118 v1)), (1441, .box false 118 (PV.ar 118 v2))]) (kNorm tau 0 nx122_1 k)) (fun x0 x1 => k (Ex.exit 2) (fillS nx122_1 N122 [.ptr 1440 [], .ptr 1441 []] [(1440, .box false 118 (PV.ar 118 x0)), (1441, .box false 118 (PV.ar 118 x1))])) v0 v1 v2 := by kernel_rfl
theorem lpE122_1 (f : Nat) (k : Kont) : ∀ (n : Nat) (v0 : Int) (v1 : List PV) (v2 : List PV), evLoop tau 0 nm122_1 (fun s k => ev tau F122 0 0 c122_1 (x122_1 ) s k) n (fillS nm122_1 N122 [.ptr 1440 [], .ptr 1441 [], .sc (.int .i64 v0)] [(1440, .box false 118 (PV.ar 118 v1)), (1441, .box false 118 (PV.ar 118 v2))]) (kNorm tau 0 nx122_1 k) = lp122_1 f (fun x0 x1 => k (Ex.exit 2) (fillS nx122_1 N122 [.ptr 1440 [], .ptr 1441 []] [(1440, .box false 118 (PV.ar 118 x0)), (1441, .box false 118 (PV.ar 118 x1))])) n v0 v1 v2 | 0, _, _, _ => rfl | n + 1, v0, v1, v2 => (lpR122_1 f k n v0 v1 v2).trans (congrArg (fun r => lpS122_1 f r (fun x0 x1 => k (Ex.exit 2) (fillS nx122_1 N122 [.ptr 1440 [], .ptr 1441 []] [(1440, .box false 118 (PV.ar 118 x0)), (1441, .box false 118 (PV.ar 118 x1))])) v0 v1 v2) (by funext v0 v1 v2; exact lpE122_1 f k n v0 v1 v2))
noncomputable def r122_1 (f : Nat) : List PV → List (Nat × Ent) → Kont → Option Res
  | [.ptr 1440 [], .ptr 1441 [],
  PV.sc
    (Value.int IntKind.i64
      v0)], [(1440, .box false 118 (PV.ar 118 v1)),
  (1441,
    Ent.box false 118
      (PV.ar 118
        v2))], k => lp122_1 f (fun x0 x1 => k (Ex.exit
  2) (fillS nx122_1 N122 [.ptr 1440 [], .ptr 1441 []] [(1440, .box false 118 (PV.ar 118 x0)), (1441, .box false 118 (PV.ar 118 x1))])) f v0 v1 v2
  | _, _, _ => none
theorem it122_1 (f : Nat) : items c122_1 x122_1 = [] := by kernel_rfl
theorem i122_1 (f : Nat) : (Item.l c122_1 nm122_1 N122 (r122_1 f)).Ok tau Try.prog 0 := loop_item tabOk F122_ok mixed (x := x122_1) (nm2 := nx122_1) (anOk_items _ _ (by rw [it122_1 f]; intro q hq; cases hq)) fun vs hp k res hr => by
  unfold r122_1 at hr
  split at hr
  · exact ⟨f, 0, (lpE122_1 f _ f _ _ _ ).trans hr⟩
  · cases hr
noncomputable def g122 (f : Nat) (b_z : Bool) (b_f : Bool) (b : List PV) (k : Res → Option Res) : Option Res := lp122_0 f (fun x0_0 x1_0 => lp122_1 f (fun x0_1 x1_1 => k (Res.mk (.ar 118 x1_1) [] [])) f (16) x0_0 x1_0) f b_z b_f b (0) ([.sc (.int .u32 0), .sc (.int .u32 0), .sc (.int .u32 0), .sc (.int .u32 0), .sc (.int .u32 0), .sc (.int .u32 0), .sc (.int .u32 0), .sc (.int .u32 0), .sc (.int .u32 0), .sc (.int .u32 0), .sc (.int .u32 0), .sc (.int .u32 0), .sc (.int .u32 0), .sc (.int .u32 0), .sc (.int .u32 0), .sc (.int .u32 0), .sc (.int .u32 0), .sc (.int .u32 0), .sc (.int .u32 0), .sc (.int .u32 0), .sc (.int .u32 0), .sc (.int .u32 0), .sc (.int .u32 0), .sc (.int .u32 0), .sc (.int .u32 0), .sc (.int .u32 0), .sc (.int .u32 0), .sc (.int .u32 0), .sc (.int .u32 0), .sc (.int .u32 0), .sc (.int .u32 0), .sc (.int .u32 0), .sc (.int .u32 0), .sc (.int .u32 0), .sc (.int .u32 0), .sc (.int .u32 0), .sc (.int .u32 0), .sc (.int .u32 0), .sc (.int .u32 0), .sc (.int .u32 0), .sc (.int .u32 0), .sc (.int .u32 0), .sc (.int .u32 0), .sc (.int .u32 0), .sc (.int .u32 0), .sc (.int .u32 0), .sc (.int .u32 0), .sc (.int .u32 0), .sc (.int .u32 0), .sc (.int .u32 0), .sc (.int .u32 0), .sc (.int .u32 0), .sc (.int .u32 0), .sc (.int .u32 0), .sc (.int .u32 0), .sc (.int .u32 0), .sc (.int .u32 0), .sc (.int .u32 0), .sc (.int .u32 0), .sc (.int .u32 0), .sc (.int .u32 0), .sc (.int .u32 0), .sc (.int .u32 0), .sc (.int .u32 0)]) ([.sc (.int .u32 0), .sc (.int .u32 0), .sc (.int .u32 0), .sc (.int .u32 0), .sc (.int .u32 0), .sc (.int .u32 0), .sc (.int .u32 0), .sc (.int .u32 0), .sc (.int .u32 0), .sc (.int .u32 0), .sc (.int .u32 0), .sc (.int .u32 0), .sc (.int .u32 0), .sc (.int .u32 0), .sc (.int .u32 0), .sc (.int .u32 0), .sc (.int .u32 0), .sc (.int .u32 0), .sc (.int .u32 0), .sc (.int .u32 0), .sc (.int .u32 0), .sc (.int .u32 0), .sc (.int .u32 0), .sc (.int .u32 0), .sc (.int .u32 0), .sc (.int .u32 0), .sc (.int .u32 0), .sc (.int .u32 0), .sc (.int .u32 0), .sc (.int .u32 0), .sc (.int .u32 0), .sc (.int .u32 0), .sc (.int .u32 0), .sc (.int .u32 0), .sc (.int .u32 0), .sc (.int .u32 0), .sc (.int .u32 0), .sc (.int .u32 0), .sc (.int .u32 0), .sc (.int .u32 0), .sc (.int .u32 0), .sc (.int .u32 0), .sc (.int .u32 0), .sc (.int .u32 0), .sc (.int .u32 0), .sc (.int .u32 0), .sc (.int .u32 0), .sc (.int .u32 0), .sc (.int .u32 0), .sc (.int .u32 0), .sc (.int .u32 0), .sc (.int .u32 0), .sc (.int .u32 0), .sc (.int .u32 0), .sc (.int .u32 0), .sc (.int .u32 0), .sc (.int .u32 0), .sc (.int .u32 0), .sc (.int .u32 0), .sc (.int .u32 0), .sc (.int .u32 0), .sc (.int .u32 0), .sc (.int .u32 0), .sc (.int .u32 0)])
theorem e122 (f : Nat) (b_z : Bool) (b_f : Bool) (b : List PV) (k : Res → Option Res) : evFn tau F122 Try.f122 (Try.f122.body.get!) (an122 (r122_0 f) (r122_1 f)) [] 0 [.ro 5 b_z b_f b] [] k = g122 f b_z b_f b k := by kernel_rfl
theorem it122 (f : Nat) : items (Try.f122.body.get!) (an122 (r122_0 f) (r122_1 f)) = [.l c122_0 nm122_0 N122 (r122_0 f), .l c122_1 nm122_1 N122 (r122_1 f)] := by kernel_rfl
theorem ia122 (f : Nat) : ∀ q ∈ items (Try.f122.body.get!) (an122 (r122_0 f) (r122_1 f)), q.Ok tau Try.prog 0 := by
  rw [it122 f]; simp only [List.forall_mem_cons, List.not_mem_nil, false_implies, implies_true, and_true]; exact ⟨i122_0 f, i122_1 f⟩
theorem fo122 : Try.prog.funcs[122]? = some Try.f122 := by kernel_rfl
theorem bo122 : Try.f122.body = some (Try.f122.body.get!) := by kernel_rfl
theorem en122 : Enters Try.prog 122 := enters_of fo122 (by kernel_rfl) bo122
end Go.Proofs.Ytcklhipdldpkhaa.Rx

-- FN sha.spread
namespace Go.Proofs.Ytcklhipdldpkhaa.Rx
open Go
set_option linter.unusedVariables false
set_option maxRecDepth 100000
set_option maxHeartbeats 4000000
abbrev ww (x : Int) : Int := IntKind.u32.wrap x
def word4 (a b c d : Int) : Int := bitI .or .u32 (bitI .or .u32 (bitI .or .u32 (shlI .u32 (ww a) 24) (shlI .u32 (ww b) 16)) (shlI .u32 (ww c) 8)) (ww d)
def sg0 (x : Int) : Int := bitI .xor .u32 (bitI .xor .u32 (rr x 7) (rr x 18)) (shrI .u32 x 3)
def sg1 (x : Int) : Int := bitI .xor .u32 (bitI .xor .u32 (rr x 17) (rr x 19)) (shrI .u32 x 10)
def nxtW (w16 w15 w7 w2 : Int) : Int := ww (ww (ww (w16 + sg0 w15) + w7) + sg1 w2)
def word (bs : List Int) (j : Nat) : Int := word4 (bs.getD (4 * j) 0) (bs.getD (4 * j + 1) 0) (bs.getD (4 * j + 2) 0) (bs.getD (4 * j + 3) 0)
def sched (bs : List Int) : Nat → List Int
  | 0 => (List.range 16).map (word bs)
  | i + 1 => sched bs i ++ [nxtW ((sched bs i).getD i 0) ((sched bs i).getD (i + 1) 0) ((sched bs i).getD (i + 9) 0) ((sched bs i).getD (i + 14) 0)]
def spreadP (bs : List Int) : List Int := sched bs 48
theorem sched_length (bs : List Int) : ∀ i, (sched bs i).length = 16 + i
  | 0 => by simp [sched]
  | i + 1 => by simp [sched, sched_length bs i]; omega
def fill0 (bs : List Int) (i : Nat) : List Int := (List.range i).map (word bs) ++ List.replicate (64 - i) 0
def fill1 (bs : List Int) (i : Nat) : List Int := sched bs i ++ List.replicate (48 - i) 0
theorem fill1_length (bs : List Int) (i : Nat) (h : i ≤ 48) : (fill1 bs i).length = 64 := by simp [fill1, sched_length]; omega
theorem set_fill (L : List Int) (m : Nat) (x : Int) : (L ++ List.replicate (m + 1) 0).set L.length x = (L ++ [x]) ++ List.replicate m 0 := by
  simp [List.replicate_succ]
theorem fill0_set (bs : List Int) (i : Nat) (h : i < 64) : (fill0 bs i).set i (word bs i) = fill0 bs (i + 1) := by
  have := set_fill ((List.range i).map (word bs)) (63 - i) (word bs i)
  simp only [List.length_map, List.length_range] at this
  simp only [fill0, show 64 - i = 63 - i + 1 from by omega, this, show 64 - (i + 1) = 63 - i from by omega, List.range_succ, List.map_append, List.map_cons, List.map_nil]
theorem fill1_get (bs : List Int) (i j : Nat) (h : j < 16 + i) : (fill1 bs i).getD j 0 = (sched bs i).getD j 0 := by
  simp only [fill1, List.getD_eq_getElem?_getD]
  rw [List.getElem?_append_left (by rw [sched_length]; exact h)]
theorem fill1_set (bs : List Int) (i : Nat) (h : i < 48) (x : Int) : (fill1 bs i).set (i + 16) x = (sched bs i ++ [x]) ++ List.replicate (48 - (i + 1)) 0 := by
  have := set_fill (sched bs i) (47 - i) x
  rw [sched_length] at this
  rw [fill1, show 48 - i = 47 - i + 1 from by omega, show i + 16 = 16 + i from by omega, this, show 48 - (i + 1) = 47 - i from by omega]
theorem l122_0 (bs : List Int) (hb : bs.length = 64) (f : Nat) (k0 : List PV → List PV → Option Res) (nl fl : Bool) (w : List PV) : ∀ (d i n : Nat), i + d = 16 → d < n →
    lp122_0 f k0 n nl fl (pu .u8 bs) (i : Int) w (pu .u32 (fill0 bs i)) = k0 w (pu .u32 (fill0 bs 16))
  | 0, i, n + 1, h, hn => by
      obtain rfl : i = 16 := by omega
      simp only [lp122_0, lpS122_0]
      exact bif_f (by decide)
  | d + 1, i, n + 1, h, hn => by
      have h4 : IntKind.i64.wrap (4 * (i : Int)) = ((4 * i : Nat) : Int) := by rw [wrap_i64 (by omega) (by omega)]; omega
      have h41 : IntKind.i64.wrap (((4 * i : Nat) : Int) + 1) = ((4 * i + 1 : Nat) : Int) := by rw [wrap_i64 (by omega) (by omega)]; omega
      have h42 : IntKind.i64.wrap (((4 * i : Nat) : Int) + 2) = ((4 * i + 2 : Nat) : Int) := by rw [wrap_i64 (by omega) (by omega)]; omega
      have h43 : IntKind.i64.wrap (((4 * i : Nat) : Int) + 3) = ((4 * i + 3 : Nat) : Int) := by rw [wrap_i64 (by omega) (by omega)]; omega
      have h5 : IntKind.i64.wrap ((i : Int) + 1) = ((i + 1 : Nat) : Int) := by rw [wrap_i64 (by omega) (by omega)]; omega
      simp only [lp122_0, lpS122_0, h4, h41, h42, h43, h5, Int.toNat_natCast, zi]
      rw [pu_isInt (by omega), pu_isInt (by omega), pu_isInt (by omega), pu_isInt (by omega), pu_int (by omega), pu_int (by omega), pu_int (by omega), pu_int (by omega), pu_length, pu_set]
      refine (bif_t (by simp; omega)).trans ?_
      refine (bif_t (by simp; omega)).trans ?_
      refine (bif_t (by simp; omega)).trans ?_
      refine (bif_t (by simp; omega)).trans ?_
      refine (bif_t (by simp; omega)).trans ?_
      refine (bif_t (by simp; omega)).trans ?_
      have := l122_0 bs hb f k0 nl fl w d (i + 1) n (by omega) (by omega)
      rw [← fill0_set bs i (by omega)] at this
      exact this
theorem l122_1 (bs : List Int) (f : Nat) (k0 : List PV → List PV → Option Res) (w : List PV) : ∀ (d i n : Nat), i + d = 48 → d < n →
    lp122_1 f k0 n ((i + 16 : Nat) : Int) w (pu .u32 (fill1 bs i)) = k0 w (pu .u32 (sched bs 48))
  | 0, i, n + 1, h, hn => by
      obtain rfl : i = 48 := by omega
      simp only [lp122_1, lpS122_1]
      exact (bif_f (by decide)).trans (by simp [fill1])
  | d + 1, i, n + 1, h, hn => by
      have h15 : IntKind.i64.wrap (((i + 16 : Nat) : Int) - 15) = ((i + 1 : Nat) : Int) := by rw [wrap_i64 (by omega) (by omega)]; omega
      have h2 : IntKind.i64.wrap (((i + 16 : Nat) : Int) - 2) = ((i + 14 : Nat) : Int) := by rw [wrap_i64 (by omega) (by omega)]; omega
      have h16 : IntKind.i64.wrap (((i + 16 : Nat) : Int) - 16) = ((i : Nat) : Int) := by rw [wrap_i64 (by omega) (by omega)]; omega
      have h7 : IntKind.i64.wrap (((i + 16 : Nat) : Int) - 7) = ((i + 9 : Nat) : Int) := by rw [wrap_i64 (by omega) (by omega)]; omega
      have h1 : IntKind.i64.wrap (((i + 16 : Nat) : Int) + 1) = ((i + 1 + 16 : Nat) : Int) := by rw [wrap_i64 (by omega) (by omega)]; omega
      have hl := fill1_length bs i (by omega)
      simp only [lp122_1, lpS122_1, h15, h2, h16, h7, h1, Int.toNat_natCast, zi, getP_ar]
      rw [pu_isInt (by omega), pu_isInt (by omega), pu_isInt (by omega), pu_isInt (by omega), pu_int (by omega), pu_int (by omega), pu_int (by omega), pu_int (by omega), pu_set]
      refine (bif_t (by simp; omega)).trans ?_
      refine (bif_t (by simp; omega)).trans ?_
      refine (bif_t (by simp)).trans ?_
      refine (bif_t (by simp; omega)).trans ?_
      refine (bif_t (by simp)).trans ?_
      refine (bif_t (by simp; omega)).trans ?_
      refine (bif_t (by simp)).trans ?_
      refine (bif_t (by simp; omega)).trans ?_
      refine (bif_t (by simp)).trans ?_
      refine (bif_t (by simp; omega)).trans ?_
      have := l122_1 bs f k0 w d (i + 1) n (by omega) (by omega)
      rw [fill1_get bs i i (by omega), fill1_get bs i (i + 1) (by omega), fill1_get bs i (i + 9) (by omega), fill1_get bs i (i + 14) (by omega), fill1_set bs i (by omega)]
      exact this
theorem g122_eq (bs : List Int) (hb : bs.length = 64) (nl fl : Bool) (k : Res → Option Res) : g122 100 nl fl (pu .u8 bs) k = k ⟨.ar 118 (pu .u32 (spreadP bs)), [], []⟩ := by
  have h0 : ∀ k0 w, lp122_0 100 k0 100 nl fl (pu .u8 bs) 0 w (pu .u32 (List.replicate 64 0)) = k0 w (pu .u32 (fill0 bs 16)) := fun k0 w => l122_0 bs hb 100 k0 nl fl w 16 0 100 (by omega) (by omega)
  have h1 : ∀ k0 w, lp122_1 100 k0 100 16 w (pu .u32 (fill0 bs 16)) = k0 w (pu .u32 (sched bs 48)) := fun k0 w => l122_1 bs 100 k0 w 48 0 100 (by omega) (by omega)
  exact (h0 _ _).trans (h1 _ _)
def run122' : List PV → List Ent → (Res → Option Res) → Option Res
  | [.ro 5 nl fl b], [], k => bif allInt .u8 b && decide (b.length = 64) then k ⟨.ar 118 (pu .u32 (spreadP (ints b))), [], []⟩ else none
  | _, _, _ => none
def s122' : Sig := { own := [], run := run122' }
theorem ok122' : CallOk tau Try.prog 122 s122' := fn_ok tabOk F122_ok mixed fo122 bo122 _ [] 0 [] run122' (ia122 100) fun xs es k res hr => by
  unfold run122' at hr
  split at hr
  · obtain ⟨hc, hr⟩ := of_bif hr
    simp only [Bool.and_eq_true, decide_eq_true_eq] at hc
    refine ⟨rfl, 0, (e122 100 _ _ _ _).trans ?_⟩
    rw [pu_ints hc.1, g122_eq _ (by simpa using hc.2)]
    exact hr
  · cases hr
end Go.Proofs.Ytcklhipdldpkhaa.Rx

namespace Go.Proofs.Ytcklhipdldpkhaa.Rx
open Go
set_option linter.unusedVariables false
set_option maxRecDepth 100000
set_option maxHeartbeats 4000000
def fillM (g : Nat → Int) (t : List Int) (i : Nat) : List Int := (List.range i).map g ++ t.drop i
theorem fillM_zero (g : Nat → Int) (t : List Int) : fillM g t 0 = t := by simp [fillM]
theorem fillM_full (g : Nat → Int) (t : List Int) : fillM g t t.length = (List.range t.length).map g := by simp [fillM]
theorem fillM_length (g : Nat → Int) (t : List Int) (i : Nat) (h : i ≤ t.length) : (fillM g t i).length = t.length := by simp [fillM]; omega
theorem fillM_set (g : Nat → Int) (t : List Int) (i : Nat) (h : i < t.length) : (fillM g t i).set i (g i) = fillM g t (i + 1) := by
  rw [fillM, List.set_append_right _ _ (by simp), List.drop_eq_getElem_cons h, List.length_map, List.length_range, Nat.sub_self, List.set_cons_zero]
  simp [fillM, List.range_succ]
theorem fillM_get (g : Nat → Int) (t : List Int) (i : Nat) (h : i < t.length) : (fillM g t i).getD i 0 = t.getD i 0 := by
  simp only [fillM, List.getD_eq_getElem?_getD]
  rw [List.getElem?_append_right (by simp)]
  simp
def kks : List Int := [1116352408, 1899447441, 3049323471, 3921009573, 961987163, 1508970993, 2453635748, 2870763221, 3624381080, 310598401, 607225278, 1426881987, 1925078388, 2162078206, 2614888103, 3248222580, 3835390401, 4022224774, 264347078, 604807628, 770255983, 1249150122, 1555081692, 1996064986, 2554220882, 2821834349, 2952996808, 3210313671, 3336571891, 3584528711, 113926993, 338241895, 666307205, 773529912, 1294757372, 1396182291, 1695183700, 1986661051, 2177026350, 2456956037, 2730485921, 2820302411, 3259730800, 3345764771, 3516065817, 3600352804, 4094571909, 275423344, 430227734, 506948616, 659060556, 883997877, 958139571, 1322822218, 1537002063, 1747873779, 1955562222, 2024104815, 2227730452, 2361852424, 2428436474, 2756734187, 3204031479, 3329325298]
def iv : List Int := [1779033703, 3144134277, 1013904242, 2773480762, 1359893119, 2600822924, 528734635, 1541459225]
def xW (k w h e f g : Int) : Int := ww (ww (ww (ww (h + bitI .xor .u32 (bitI .xor .u32 (rr e 6) (rr e 11)) (rr e 25)) + bitI .xor .u32 (bitI .and .u32 e f) (bitI .and .u32 (bitI .xor .u32 (Int.ofNat (2 ^ IntKind.u32.bits - Nat.succ 0)) e) g)) + k) + w)
def yW (a b c : Int) : Int := ww (bitI .xor .u32 (bitI .xor .u32 (rr a 2) (rr a 13)) (rr a 22) + bitI .xor .u32 (bitI .xor .u32 (bitI .and .u32 a b) (bitI .and .u32 a c)) (bitI .and .u32 b c))
def rnd (k w : Int) (t : List Int) : List Int :=
  [ww (xW k w (t.getD 7 0) (t.getD 4 0) (t.getD 5 0) (t.getD 6 0) + yW (t.getD 0 0) (t.getD 1 0) (t.getD 2 0)), t.getD 0 0, t.getD 1 0, t.getD 2 0,
    ww (t.getD 3 0 + xW k w (t.getD 7 0) (t.getD 4 0) (t.getD 5 0) (t.getD 6 0)), t.getD 4 0, t.getD 5 0, t.getD 6 0]
def rnds (W s : List Int) : Nat → List Int
  | 0 => s
  | i + 1 => rnd (kks.getD i 0) (W.getD i 0) (rnds W s i)
theorem rnds_length (W s : List Int) (h : s.length = 8) : ∀ i, (rnds W s i).length = 8
  | 0 => h
  | i + 1 => rfl
def addP (s bs : List Int) : List Int := (List.range 8).map fun i => ww ((rnds (spreadP bs) s 64).getD i 0 + s.getD i 0)
theorem addP_length (s bs : List Int) : (addP s bs).length = 8 := by simp [addP]
def foldB (s b : List Int) : Nat → List Int
  | 0 => s
  | n + 1 => addP (foldB s b n) ((b.drop (64 * n)).take 64)
theorem foldB_length (s b : List Int) (h : s.length = 8) : ∀ n, (foldB s b n).length = 8
  | 0 => h
  | n + 1 => addP_length _ _
def zs (m : Nat) : Nat := (120 - m % 64) % 64
def lenB (n : Nat) : List Int := (List.range 8).map fun (i : Nat) => IntKind.u8.wrap (shrI .u64 (IntKind.u64.wrap (IntKind.u64.wrap (n : Int) * 8)) (56 - 8 * (i : Int)))
def padP (bs : List Int) : List Int := (bs ++ [128] ++ List.replicate (zs (bs.length + 1)) 0) ++ lenB bs.length
theorem padP_length (bs : List Int) : (padP bs).length = 64 * ((padP bs).length / 64) := by
  have : (padP bs).length = bs.length + 1 + zs (bs.length + 1) + 8 := by simp [padP, lenB]; omega
  rw [this]; unfold zs; omega
def outB (s : List Int) (i : Nat) : Int := IntKind.u8.wrap (shrI .u32 (s.getD (i / 4) 0) (24 - 8 * ((i % 4 : Nat) : Int)))
def outP (s : List Int) : List Int := (List.range 32).map (outB s)
def sumP0 (bs : List Int) : List Int := outP (foldB iv (padP bs) ((padP bs).length / 64))
def sumP (bs : List Int) : List Int := bif Nat.ble bs.length bs.length then sumP0 bs else []
theorem sumP_eq (bs : List Int) : sumP bs = sumP0 bs := by
  have : Nat.ble bs.length bs.length = true := by rw [Nat.ble_eq]; exact Nat.le_refl _
  rw [sumP, this]; rfl
theorem sumP_length (bs : List Int) : (sumP bs).length = 32 := by simp [sumP_eq, sumP0, outP]
theorem tmod64 (n : Nat) : (zi n).tmod 64 = ((n % 64 : Nat) : Int) := by
  show (n : Int).tmod 64 = _
  rw [Int.tmod_eq_emod_of_nonneg (by omega)]; omega
end Go.Proofs.Ytcklhipdldpkhaa.Rx

-- FN ref8.Hash
namespace Go.Proofs.Ytcklhipdldpkhaa.Rx
open Go
set_option linter.unusedVariables false
set_option linter.unusedSimpArgs false
set_option maxRecDepth 100000
set_option maxHeartbeats 1000000
def runB : Nat → RS → RS
  | 0, s => s
  | n + 1, s => runB n (stepS0 1 s)
def runH : Nat → RS → List Int
  | 0, _ => []
  | n + 1, s => IntKind.u8.wrap (numS0 1 s) :: runH n (stepS0 1 s)
def runT : Nat → RT → RT
  | 0, t => t
  | n + 1, t => runT n (stepT0 1 t)
noncomputable def hashS : RS → RS := hid (runB 32)
noncomputable def hashV : RS → List Int := hid (runH 32)
noncomputable def hashT : RT → RT := hid (runT 32)
noncomputable def hashVT : RT → List Int := hid fun t => runH 32 t.view
theorem hashS_eq (s : RS) : hashS s = runB 32 s := by rw [hashS, hid_eq]
theorem hashV_eq (s : RS) : hashV s = runH 32 s := by rw [hashV, hid_eq]
theorem hashT_eq (t : RT) : hashT t = runT 32 t := by rw [hashT, hid_eq]
theorem hashVT_eq (t : RT) : hashVT t = runH 32 t.view := by rw [hashVT, hid_eq]
theorem runH_length : ∀ (n : Nat) (s : RS), (runH n s).length = n
  | 0, _ => rfl
  | n + 1, s => by simp [runH, runH_length n]
@[simp] theorem hashV_length (s : RS) : (hashV s).length = 32 := by rw [hashV_eq]; exact runH_length 32 s
theorem runT_view : ∀ (n : Nat) (t : RT), (runT n t).view = runB n t.view
  | 0, _ => rfl
  | n + 1, t => by simp only [runT, runB, runT_view n, view_step]
@[simp] theorem hashT_view (t : RT) : (hashT t).view = hashS t.view := by rw [hashT_eq, hashS_eq, runT_view]
@[simp] theorem hashVT_val (t : RT) : hashVT t = hashV t.view := by rw [hashVT_eq, hashV_eq]
theorem okT_run : ∀ (n : Nat) {t : RT}, okT t = true → okT (runT n t) = true
  | 0, _, h => h
  | n + 1, t, h => okT_run n (okT_step h 1)
@[simp] theorem okT_hash {t : RT} (h : okT t = true) : okT (hashT t) = true := by rw [hashT_eq]; exact okT_run 32 h
theorem byB_run : ∀ (n : Nat) {s : RS}, byB s.b = true → byB (runB n s).b = true
  | 0, _, h => h
  | n + 1, s, h => byB_run n (byB_step h 1)
end Go.Proofs.Ytcklhipdldpkhaa.Rx

-- FN wire.read
namespace Go.Proofs.Ytcklhipdldpkhaa.Rx
open Go
set_option linter.unusedVariables false
set_option linter.unusedSimpArgs false
set_option maxRecDepth 100000
set_option maxHeartbeats 1000000
noncomputable def fS : Nat → RS → RS
  | 0, s => s
  | 1, s => stepS 1 s
  | n + 2, s => stepS 8 (fS (n + 1) s)
def failS (c : Int) (s : RS) : RS := ⟨s.b, bif s.e == 0 then c else s.e⟩
noncomputable def txR : Nat → RS → RS
  | 0, s => s
  | n + 1, s => txR n (txtS s)
noncomputable def cntS (s : RS) : Int := numS 1 (fS 13 s)
noncomputable def msgN (s : RS) : Nat := bif decide (cntS s > 4) then 0 else (cntS s).toNat
noncomputable def msgS (s : RS) : RS := bif decide (cntS s > 4) then failS 4 (stepS 1 (fS 13 s)) else stepS 1 (fS 13 s)
noncomputable def msgH : RS → List Int := hid fun s => hashV (txR (msgN s) (msgS s))
theorem msgH_eq (s : RS) : msgH s = hashV (txR (msgN s) (msgS s)) := by rw [msgH, hid_eq]
@[simp] theorem msgH_length (s : RS) : (msgH s).length = 32 := by rw [msgH_eq]; exact hashV_length _
theorem byS_step {s : RS} (h : byB s.b = true) (n : Nat) : byB (stepS n s).b = true := by rw [stepS_eq]; exact byB_step h n
theorem byS_txt {s : RS} (h : byB s.b = true) : byB (txtS s).b = true := by rw [txtS_eq]; exact byB_step (byB_step h 2) _
theorem toBytes_len : ∀ l : List PV, (toBytes l).length = l.length
  | [] => rfl
  | p :: ps => by simp [toBytes, toBytes_len ps]
theorem txtV_size {s : RS} (h : byB s.b = true) : (txtV s).size ≤ 65535 := by
  rw [txtV_eq]
  show (toBytes _).length ≤ _
  rw [toBytes_len]
  have h1 := out_length (numS0 2 s).toNat (stepS0 2 s)
  have h2 := numS_small h (n := 2) (Nat.le_refl 2)
  omega
theorem ofBytes_len (t : ByteArray) : (ofBytes t).length = t.size := by simp only [ofBytes, List.length_map, Array.length_toList]; rfl
end Go.Proofs.Ytcklhipdldpkhaa.Rx

namespace Go.Proofs.Ytcklhipdldpkhaa.Rx
open Go
set_option linter.unusedVariables false
set_option maxRecDepth 100000
set_option maxHeartbeats 0
noncomputable def F78 : Fns := F0
theorem F78_ok : FnsOk tau Try.prog F78 := F0_ok
def an78 : An := (.seq .leaf (.seq (.seq .leaf (.cond (.seq .leaf .leaf) .leaf)) (.seq .leaf .leaf)))
noncomputable def g78 (f : Nat) (r_b_z : Bool) (r_b_f : Bool) (r_b : List PV) (r_e : Int) (k : Res → Option Res) : Option Res := bif r_e == 0 then bif decide (zi r_b.length > 0) then k (Res.mk (.sc (.int .i64 9)) [.box false 186 (PV.st 186 [.ro 5 r_b_z r_b_f r_b, .sc (.int .i64 r_e)])] []) else k (Res.mk (.sc (.int .i64 r_e)) [.box false 186 (PV.st 186 [.ro 5 r_b_z r_b_f r_b, .sc (.int .i64 r_e)])] []) else k (Res.mk (.sc (.int .i64 r_e)) [.box false 186 (PV.st 186 [.ro 5 r_b_z r_b_f r_b, .sc (.int .i64 r_e)])] [])
theorem e78 (f : Nat) (r_b_z : Bool) (r_b_f : Bool) (r_b : List PV) (r_e : Int) (k : Res → Option Res) : evFn tau F78 Try.f78 (Try.f78.body.get!) an78 [.ro] 0 [.ptr 0 []] [.box false 186 (.st 186 [.ro 5 r_b_z r_b_f r_b, .sc (.int .i64 r_e)])] k = g78 f r_b_z r_b_f r_b r_e k := by kernel_rfl
theorem it78 (f : Nat) : items (Try.f78.body.get!) an78 = [] := by kernel_rfl
theorem ia78 (f : Nat) : ∀ q ∈ items (Try.f78.body.get!) an78, q.Ok tau Try.prog 1 := by
  rw [it78 f]; intro q hq; cases hq
theorem fo78 : Try.prog.funcs[78]? = some Try.f78 := by kernel_rfl
theorem bo78 : Try.f78.body = some (Try.f78.body.get!) := by kernel_rfl
theorem en78 : Enters Try.prog 78 := enters_of fo78 (by kernel_rfl) bo78
noncomputable def run78 : List PV → List Ent → (Res → Option Res) → Option Res
  | [.ptr 0 []], [.box false 186 (.st 186 [.ro 5 r_b_z r_b_f r_b, .sc (.int .i64 r_e)])], k => g78 0 r_b_z r_b_f r_b r_e k
  | _, _, _ => none
noncomputable def s78 : Sig := { own := [], run := run78 }
theorem ok78 : CallOk tau Try.prog 78 s78 := fn_ok tabOk F78_ok mixed fo78 bo78 an78 [.ro] 1 [] run78 (ia78 0) fun xs es k res hr => by
  unfold run78 at hr
  split at hr
  · exact ⟨rfl, 0, (e78 0 _ _ _ _  _).trans hr⟩
  · cases hr
end Go.Proofs.Ytcklhipdldpkhaa.Rx

namespace Go.Proofs.Ytcklhipdldpkhaa.Rx
open Go
set_option linter.unusedVariables false
set_option maxRecDepth 100000
set_option maxHeartbeats 0
end Go.Proofs.Ytcklhipdldpkhaa.Rx

namespace Go.Proofs.Ytcklhipdldpkhaa.Rx
open Go
set_option linter.unusedVariables false
set_option maxRecDepth 100000
set_option maxHeartbeats 0
end Go.Proofs.Ytcklhipdldpkhaa.Rx

namespace Go.Proofs.Ytcklhipdldpkhaa.Rx
open Go
set_option linter.unusedVariables false
set_option maxRecDepth 100000
set_option maxHeartbeats 0
end Go.Proofs.Ytcklhipdldpkhaa.Rx

namespace Go.Proofs.Ytcklhipdldpkhaa.Rx
open Go
set_option linter.unusedVariables false
set_option maxRecDepth 100000
set_option maxHeartbeats 0
end Go.Proofs.Ytcklhipdldpkhaa.Rx

namespace Go.Proofs.Ytcklhipdldpkhaa.Rx
open Go
set_option linter.unusedVariables false
set_option maxRecDepth 100000
set_option maxHeartbeats 0
end Go.Proofs.Ytcklhipdldpkhaa.Rx

-- FN wire.check | wire.key
namespace Go.Proofs.Ytcklhipdldpkhaa.Rx
open Go
set_option linter.unusedVariables false
set_option linter.unusedSimpArgs false
set_option maxRecDepth 100000
set_option maxHeartbeats 1000000
def innB (x m : Int) : Bool := decide (x ≥ 0) && decide (x ≤ m)
def chkB (fr to wh wn cd cu ve co ad au su er : Int) : Bool := innB fr 2 && (innB to 2 && (!(fr == to) && (innB wh 2 && (innB wn 99 && (innB cd 2 && (innB cu 7 && (innB ad 2 && (innB au 7 && (innB ve 1073741824 && (innB co 1073741824 && (innB su 1073741824 && innB er 255)))))))))))
def chk0 (kd fr to wh wn cd cu ve co ad au su er : Int) : Int := bif innB (IntKind.i64.wrap (kd - 1)) 4 then (bif chkB fr to wh wn cd cu ve co ad au su er then 0 else 1) else 3
structure C13 where
  (kd fr to wh wn cd cu ve co ad au su er : Int)
noncomputable def chk : C13 → Int := hid fun c => chk0 c.kd c.fr c.to c.wh c.wn c.cd c.cu c.ve c.co c.ad c.au c.su c.er
def keyF0 (l : List PV) (d : Int) : PV := bif innB d 2 then l.getD d.toNat .top else .ro 5 true true []
structure K3 where
  (l : List PV) (d : Int)
noncomputable def keyF : K3 → List PV := hid fun c => (keyF0 c.l c.d).els
noncomputable def keyZ : K3 → Bool := hid fun c => (keyF0 c.l c.d).nl
noncomputable def keyL : K3 → Bool := hid fun c => (keyF0 c.l c.d).fl
theorem keyF_eq (c : K3) : keyF c = (keyF0 c.l c.d).els := by rw [keyF, hid_eq]
theorem keyZ_eq (c : K3) : keyZ c = (keyF0 c.l c.d).nl := by rw [keyZ, hid_eq]
theorem keyL_eq (c : K3) : keyL c = (keyF0 c.l c.d).fl := by rw [keyL, hid_eq]
end Go.Proofs.Ytcklhipdldpkhaa.Rx

namespace Go.Proofs.Ytcklhipdldpkhaa.Rx
open Go
set_option linter.unusedVariables false
set_option maxRecDepth 100000
set_option maxHeartbeats 0
noncomputable def F123 : Fns := F0
theorem F123_ok : FnsOk tau Try.prog F123 := F0_ok
def an123 : An := (.seq .leaf (.seq .leaf .leaf))
noncomputable def g123 (f : Nat) (k : Res → Option Res) : Option Res := k (Res.mk (.ar 118 [.sc (.int .u32 1116352408), .sc (.int .u32 1899447441), .sc (.int .u32 3049323471), .sc (.int .u32 3921009573), .sc (.int .u32 961987163), .sc (.int .u32 1508970993), .sc (.int .u32 2453635748), .sc (.int .u32 2870763221), .sc (.int .u32 3624381080), .sc (.int .u32 310598401), .sc (.int .u32 607225278), .sc (.int .u32 1426881987), .sc (.int .u32 1925078388), .sc (.int .u32 2162078206), .sc (.int .u32 2614888103), .sc (.int .u32 3248222580), .sc (.int .u32 3835390401), .sc (.int .u32 4022224774), .sc (.int .u32 264347078), .sc (.int .u32 604807628), .sc (.int .u32 770255983), .sc (.int .u32 1249150122), .sc (.int .u32 1555081692), .sc (.int .u32 1996064986), .sc (.int .u32 2554220882), .sc (.int .u32 2821834349), .sc (.int .u32 2952996808), .sc (.int .u32 3210313671), .sc (.int .u32 3336571891), .sc (.int .u32 3584528711), .sc (.int .u32 113926993), .sc (.int .u32 338241895), .sc (.int .u32 666307205), .sc (.int .u32 773529912), .sc (.int .u32 1294757372), .sc (.int .u32 1396182291), .sc (.int .u32 1695183700), .sc (.int .u32 1986661051), .sc (.int .u32 2177026350), .sc (.int .u32 2456956037), .sc (.int .u32 2730485921), .sc (.int .u32 2820302411), .sc (.int .u32 3259730800), .sc (.int .u32 3345764771), .sc (.int .u32 3516065817), .sc (.int .u32 3600352804), .sc (.int .u32 4094571909), .sc (.int .u32 275423344), .sc (.int .u32 430227734), .sc (.int .u32 506948616), .sc (.int .u32 659060556), .sc (.int .u32 883997877), .sc (.int .u32 958139571), .sc (.int .u32 1322822218), .sc (.int .u32 1537002063), .sc (.int .u32 1747873779), .sc (.int .u32 1955562222), .sc (.int .u32 2024104815), .sc (.int .u32 2227730452), .sc (.int .u32 2361852424), .sc (.int .u32 2428436474), .sc (.int .u32 2756734187), .sc (.int .u32 3204031479), .sc (.int .u32 3329325298)]) [] [])
theorem e123 (f : Nat) (k : Res → Option Res) : evFn tau F123 Try.f123 (Try.f123.body.get!) an123 [.ro] 0 [] [] k = g123 f k := by kernel_rfl
theorem it123 (f : Nat) : items (Try.f123.body.get!) an123 = [] := by kernel_rfl
theorem ia123 (f : Nat) : ∀ q ∈ items (Try.f123.body.get!) an123, q.Ok tau Try.prog 0 := by
  rw [it123 f]; intro q hq; cases hq
theorem fo123 : Try.prog.funcs[123]? = some Try.f123 := by kernel_rfl
theorem bo123 : Try.f123.body = some (Try.f123.body.get!) := by kernel_rfl
theorem en123 : Enters Try.prog 123 := enters_of fo123 (by kernel_rfl) bo123
noncomputable def run123 : List PV → List Ent → (Res → Option Res) → Option Res
  | [], [], k => g123 0  k
  | _, _, _ => none
noncomputable def s123 : Sig := { own := [], run := run123 }
theorem ok123 : CallOk tau Try.prog 123 s123 := fn_ok tabOk F123_ok mixed fo123 bo123 an123 [.ro] 0 [] run123 (ia123 0) fun xs es k res hr => by
  unfold run123 at hr
  split at hr
  · exact ⟨rfl, 0, (e123 0  _).trans hr⟩
  · cases hr
end Go.Proofs.Ytcklhipdldpkhaa.Rx

namespace Go.Proofs.Ytcklhipdldpkhaa.Rx
open Go
set_option linter.unusedVariables false
set_option maxRecDepth 100000
set_option maxHeartbeats 0
def N71 : Nat := 113
noncomputable def F71 : Fns := addF 123 s123 (addF 122 s122' (addF 124 s124' F0))
theorem F71_ok : FnsOk tau Try.prog F71 := ((F0_ok.add ok124' en124).add ok122' en122).add ok123 en123
noncomputable def c71_0 : Code := subC (Try.f71.body.get!) [1, 1, 1, 0, 1, 0, 0]
def nm71_0 : Nm := [(2, .any), (4, .any), (5, .any), (6, .any), (7, .any), (18, .any)]
def nx71_0 : Nm := [(2, .any), (4, .any), (7, .any)]
def x71_0 : An := (.seq .leaf (.seq (.cond .leaf .leaf) (.seq (.block none (.seq .leaf (.seq .leaf (.seq .leaf (.seq .leaf .leaf))))) .leaf)))
noncomputable def c71_1 : Code := subC (Try.f71.body.get!) [1, 1, 1, 1, 0, 1, 0, 0]
def nm71_1 : Nm := [(2, .any), (4, .any), (7, .any), (100, .any)]
def nx71_1 : Nm := [(4, .any), (7, .any)]
def x71_1 : An := (.seq .leaf (.seq (.cond .leaf .leaf) (.seq (.block none (.seq .leaf .leaf)) .leaf)))
def an71 (r0 : RunL) (r1 : RunL) : An := (.seq .leaf (.seq .leaf (.seq .leaf (.seq (.seq .leaf (.block none (.sum nm71_0 N71 r0))) (.seq (.seq .leaf (.block none (.sum nm71_1 N71 r1))) (.seq .leaf .leaf))))))
def lpS71_0 (f : Nat) (rc : Int → List PV → List PV → List PV → List PV → List PV → Option Res) (k0 : List PV → List PV → List PV → Option Res) (v0 : Int) (v1 : List PV) (v2 : List PV) (v3 : List PV) (v4 : List PV) (v5 : List PV) : Option Res := bif decide (v0 < 64) then bif PV.isInt IntKind.u32 (getP (PV.ar 113 v5) [4]) && true then bif PV.isInt IntKind.u32 (getP (PV.ar 113 v5) [0]) && true then bif PV.isInt IntKind.u32 (getP (PV.ar 113 v5) [7]) && true then bif PV.isInt IntKind.u32 (getP (PV.ar 113 v5) [5]) && true then bif PV.isInt IntKind.u32 (getP (PV.ar 113 v5) [6]) && true then bif decide (0 ≤ v0) && decide (v0 < zi 64) && true then bif PV.isInt IntKind.u32 (getP (PV.ar 118 v4) [v0.toNat]) && true then bif decide (0 ≤ v0) && decide (v0 < zi 64) && true then bif PV.isInt IntKind.u32 (getP (PV.ar 118 v3) [v0.toNat]) && true then bif PV.isInt IntKind.u32 (getP (PV.ar 113 v5) [1]) && true then bif PV.isInt IntKind.u32 (getP (PV.ar 113 v5) [2]) && true then bif PV.isInt IntKind.u32 (getP (PV.ar 113 v5) [1]) && true then bif PV.isInt IntKind.u32 (getP (PV.ar 113 v5) [2]) && true then bif PV.isInt IntKind.u32 (getP (PV.ar 113 v5) [0]) && true then bif PV.isInt IntKind.u32 (getP (PV.ar 113 v5) [1]) && true then bif PV.isInt IntKind.u32 (getP (PV.ar 113 v5) [2]) && true then bif PV.isInt IntKind.u32 (getP (PV.ar 113 v5) [3]) && true then bif PV.isInt IntKind.u32 (getP (PV.ar 113 v5) [4]) && true then bif PV.isInt IntKind.u32 (getP (PV.ar 113 v5) [5]) && true then bif PV.isInt IntKind.u32 (getP (PV.ar 113 v5) [6]) && true then rc (IntKind.i64.wrap (v0 + 1)) v1 v2 v3 v4 ([.sc (.int .u32 (IntKind.u32.wrap (IntKind.u32.wrap (IntKind.u32.wrap (IntKind.u32.wrap (IntKind.u32.wrap ((getP (PV.ar 113 v5) [7]).int + bitI BinOp.xor IntKind.u32 (bitI BinOp.xor IntKind.u32 (rr (getP (PV.ar 113 v5) [4]).int 6) (rr (getP (PV.ar 113 v5) [4]).int 11)) (rr (getP (PV.ar 113 v5) [4]).int 25)) + bitI BinOp.xor IntKind.u32 (bitI BinOp.and IntKind.u32 (getP (PV.ar 113 v5) [4]).int (getP (PV.ar 113 v5) [5]).int) (bitI BinOp.and IntKind.u32 (bitI BinOp.xor IntKind.u32 (Int.ofNat (2 ^ IntKind.u32.bits - Nat.succ 0)) (getP (PV.ar 113 v5) [4]).int) (getP (PV.ar 113 v5) [6]).int)) + (getP (PV.ar 118 v4) [v0.toNat]).int) + (getP (PV.ar 118 v3) [v0.toNat]).int) + IntKind.u32.wrap (bitI BinOp.xor IntKind.u32 (bitI BinOp.xor IntKind.u32 (rr (getP (PV.ar 113 v5) [0]).int 2) (rr (getP (PV.ar 113 v5) [0]).int 13)) (rr (getP (PV.ar 113 v5) [0]).int 22) + bitI BinOp.xor IntKind.u32 (bitI BinOp.xor IntKind.u32 (bitI BinOp.and IntKind.u32 (getP (PV.ar 113 v5) [0]).int (getP (PV.ar 113 v5) [1]).int) (bitI BinOp.and IntKind.u32 (getP (PV.ar 113 v5) [0]).int (getP (PV.ar 113 v5) [2]).int)) (bitI BinOp.and IntKind.u32 (getP (PV.ar 113 v5) [1]).int (getP (PV.ar 113 v5) [2]).int))))), .sc (.int .u32 (getP (PV.ar 113 v5) [0]).int), .sc (.int .u32 (getP (PV.ar 113 v5) [1]).int), .sc (.int .u32 (getP (PV.ar 113 v5) [2]).int), .sc (.int .u32 (IntKind.u32.wrap ((getP (PV.ar 113 v5) [3]).int + IntKind.u32.wrap (IntKind.u32.wrap (IntKind.u32.wrap (IntKind.u32.wrap ((getP (PV.ar 113 v5) [7]).int + bitI BinOp.xor IntKind.u32 (bitI BinOp.xor IntKind.u32 (rr (getP (PV.ar 113 v5) [4]).int 6) (rr (getP (PV.ar 113 v5) [4]).int 11)) (rr (getP (PV.ar 113 v5) [4]).int 25)) + bitI BinOp.xor IntKind.u32 (bitI BinOp.and IntKind.u32 (getP (PV.ar 113 v5) [4]).int (getP (PV.ar 113 v5) [5]).int) (bitI BinOp.and IntKind.u32 (bitI BinOp.xor IntKind.u32 (Int.ofNat (2 ^ IntKind.u32.bits - Nat.succ 0)) (getP (PV.ar 113 v5) [4]).int) (getP (PV.ar 113 v5) [6]).int)) + (getP (PV.ar 118 v4) [v0.toNat]).int) + (getP (PV.ar 118 v3) [v0.toNat]).int)))), .sc (.int .u32 (getP (PV.ar 113 v5) [4]).int), .sc (.int .u32 (getP (PV.ar 113 v5) [5]).int), .sc (.int .u32 (getP (PV.ar 113 v5) [6]).int)]) else none else none else none else none else none else none else none else none else none else none else none else none else none else none else none else none else none else none else none else none else k0 v1 v2 v5
def lp71_0 (f : Nat) (k0 : List PV → List PV → List PV → Option Res) : Nat → Int → List PV → List PV → List PV → List PV → List PV → Option Res
  | 0, _, _, _, _, _, _ => none
  | n + 1, v0, v1, v2, v3, v4, v5 => lpS71_0 f (lp71_0 f k0 n) k0 v0 v1 v2 v3 v4 v5
theorem lpR71_0 (f : Nat) (k : Kont) (n : Nat) (v0 : Int) (v1 : List PV) (v2 : List PV) (v3 : List PV) (v4 : List PV) (v5 : List PV) : evLoop tau 0 nm71_0 (fun s k => ev tau F71 0 0 c71_0 (x71_0 ) s k) (n + 1) (fillS nm71_0 N71 [.ptr 1824 [], .ptr 1825 [], .ptr 1826 [], .ptr 1827 [], .ptr 1828 [], .sc (.int .i64 v0)] [(1824, .box false 113 (PV.ar 113 v1)), (1825, .box false 113 (PV.ar 113 v2)), (1826, .box false 118 (PV.ar 118 v3)), (1827, .box false 118 (PV.ar 118 v4)), (1828, .box false 113 (PV.ar 113 v5))]) (kNorm tau 0 nx71_0 k) = lpS71_0 f (fun v0 v1 v2 v3 v4 v5 => evLoop tau 0 nm71_0 (fun s k => ev tau F71 0 0 c71_0 (x71_0 ) s k) n (fillS nm71_0 N71 [.ptr 1824 [], .ptr 1825 [], .ptr 1826 [], .ptr 1827 [], .ptr 1828 [], .sc (.int .i64 v0)] [(1824, .box false 113 (PV.ar 113 v1)), (1825, .box false 113 (PV.ar 113 v2)), (1826, .box false 118 (PV.ar 118 v3)), (1827, .box false 118 (PV.ar 118 v4)), (1828, .box false 113 (PV.ar 113 v5))]) (kNorm tau 0 nx71_0 k)) (fun x0 x1 x2 => k (Ex.exit 0) (fillS nx71_0 N71 [.ptr 1824 [], .ptr 1825 [], .ptr 1826 []] [(1824, .box false 113 (PV.ar 113 x0)), (1825, .box false 113 (PV.ar 113 x1)), (1826, .box false 113 (PV.ar 113 x2))])) v0 v1 v2 v3 v4 v5 := by kernel_rfl
theorem lpE71_0 (f : Nat) (k : Kont) : ∀ (n : Nat) (v0 : Int) (v1 : List PV) (v2 : List PV) (v3 : List PV) (v4 : List PV) (v5 : List PV), evLoop tau 0 nm71_0 (fun s k => ev tau F71 0 0 c71_0 (x71_0 ) s k) n (fillS nm71_0 N71 [.ptr 1824 [], .ptr 1825 [], .ptr 1826 [], .ptr 1827 [], .ptr 1828 [], .sc (.int .i64 v0)] [(1824, .box false 113 (PV.ar 113 v1)), (1825, .box false 113 (PV.ar 113 v2)), (1826, .box false 118 (PV.ar 118 v3)), (1827, .box false 118 (PV.ar 118 v4)), (1828, .box false 113 (PV.ar 113 v5))]) (kNorm tau 0 nx71_0 k) = lp71_0 f (fun x0 x1 x2 => k (Ex.exit 0) (fillS nx71_0 N71 [.ptr 1824 [], .ptr 1825 [], .ptr 1826 []] [(1824, .box false 113 (PV.ar 113 x0)), (1825, .box false 113 (PV.ar 113 x1)), (1826, .box false 113 (PV.ar 113 x2))])) n v0 v1 v2 v3 v4 v5 | 0, _, _, _, _, _, _ => rfl | n + 1, v0, v1, v2, v3, v4, v5 => (lpR71_0 f k n v0 v1 v2 v3 v4 v5).trans (congrArg (fun r => lpS71_0 f r (fun x0 x1 x2 => k (Ex.exit 0) (fillS nx71_0 N71 [.ptr 1824 [], .ptr 1825 [], .ptr 1826 []] [(1824, .box false 113 (PV.ar 113 x0)), (1825, .box false 113 (PV.ar 113 x1)), (1826, .box false 113 (PV.ar 113 x2))])) v0 v1 v2 v3 v4 v5) (by funext v0 v1 v2 v3 v4 v5; exact lpE71_0 f k n v0 v1 v2 v3 v4 v5))
def r71_0 (f : Nat) : List PV → List (Nat × Ent) → Kont → Option Res
  | [.ptr 1824 [], .ptr 1825 [], .ptr 1826 [], .ptr 1827 [], .ptr 1828 [],
  PV.sc
    (Value.int IntKind.i64
      v0)], [(1824, .box false 113 (PV.ar 113 v1)), (1825, .box false 113 (PV.ar 113 v2)), (1826, .box false 118 (PV.ar 118 v3)), (1827, .box false 118 (PV.ar 118 v4)),
  (1828,
    Ent.box false 113
      (PV.ar 113
        v5))], k => lp71_0 f (fun x0 x1 x2 => k (Ex.exit
  0) (fillS nx71_0 N71 [.ptr 1824 [], .ptr 1825 [],
  PV.ptr 1826 []] [(1824, .box false 113 (PV.ar 113 x0)), (1825, .box false 113 (PV.ar 113 x1)), (1826, .box false 113 (PV.ar 113 x2))])) f v0 v1 v2 v3 v4 v5
  | _, _, _ => none
theorem it71_0 (f : Nat) : items c71_0 x71_0 = [] := by kernel_rfl
theorem i31_0 (f : Nat) : (Item.l c71_0 nm71_0 N71 (r71_0 f)).Ok tau Try.prog 0 := loop_item tabOk F71_ok mixed (x := x71_0) (nm2 := nx71_0) (anOk_items _ _ (by rw [it71_0 f]; intro q hq; cases hq)) fun vs hp k res hr => by
  unfold r71_0 at hr
  split at hr
  · exact ⟨f, 0, (lpE71_0 f _ f _ _ _ _ _ _ ).trans hr⟩
  · cases hr
def lpS71_1 (f : Nat) (rc : Int → List PV → List PV → List PV → Option Res) (k0 : List PV → List PV → Option Res) (v0 : Int) (v1 : List PV) (v2 : List PV) (v3 : List PV) : Option Res := bif decide (v0 < 8) then bif decide (0 ≤ v0) && decide (v0 < zi 8) && true then bif PV.isInt IntKind.u32 (getP (PV.ar 113 v3) [v0.toNat]) && true then bif decide (0 ≤ v0) && decide (v0 < zi 8) && true then bif PV.isInt IntKind.u32 (getP (PV.ar 113 v1) [v0.toNat]) && true then bif decide (0 ≤ v0) && decide (v0 < zi 8) && true then rc (IntKind.i64.wrap (v0 + 1)) v1 v2 (v3.set v0.toNat (.sc (.int .u32 (IntKind.u32.wrap ((getP (PV.ar 113 v3) [v0.toNat]).int + (getP (PV.ar 113 v1) [v0.toNat]).int))))) else none else none else none else none else none else k0 v2 v3
def lp71_1 (f : Nat) (k0 : List PV → List PV → Option Res) : Nat → Int → List PV → List PV → List PV → Option Res
  | 0, _, _, _, _ => none
  | n + 1, v0, v1, v2, v3 => lpS71_1 f (lp71_1 f k0 n) k0 v0 v1 v2 v3
theorem lpR71_1 (f : Nat) (k : Kont) (n : Nat) (v0 : Int) (v1 : List PV) (v2 : List PV) (v3 : List PV) : evLoop tau 0 nm71_1 (fun s k => ev tau F71 0 0 c71_1 (x71_1 ) s k) (n + 1) (fillS nm71_1 N71 [.ptr 1824 [], .ptr 1825 [], .ptr 1826 [], .sc (.int .i64 v0)] [(1824, .box false 113 (PV.ar 113 v1)), (1825, .box false 113 (PV.ar 113 v2)), (1826, .box false 113 (PV.ar 113 v3))]) (kNorm tau 0 nx71_1 k) = lpS71_1 f (fun v0 v1 v2 v3 => evLoop tau 0 nm71_1 (fun s k => ev tau F71 0 0 c71_1 (x71_1 ) s k) n (fillS nm71_1 N71 [.ptr 1824 [], .ptr 1825 [], .ptr 1826 [], .sc (.int .i64 v0)] [(1824, .box false 113 (PV.ar 113 v1)), (1825, .box false 113 (PV.ar 113 v2)), (1826, .box false 113 (PV.ar 113 v3))]) (kNorm tau 0 nx71_1 k)) (fun x0 x1 => k (Ex.exit 2) (fillS nx71_1 N71 [.ptr 1824 [], .ptr 1825 []] [(1824, .box false 113 (PV.ar 113 x0)), (1825, .box false 113 (PV.ar 113 x1))])) v0 v1 v2 v3 := by kernel_rfl
theorem lpE71_1 (f : Nat) (k : Kont) : ∀ (n : Nat) (v0 : Int) (v1 : List PV) (v2 : List PV) (v3 : List PV), evLoop tau 0 nm71_1 (fun s k => ev tau F71 0 0 c71_1 (x71_1 ) s k) n (fillS nm71_1 N71 [.ptr 1824 [], .ptr 1825 [], .ptr 1826 [], .sc (.int .i64 v0)] [(1824, .box false 113 (PV.ar 113 v1)), (1825, .box false 113 (PV.ar 113 v2)), (1826, .box false 113 (PV.ar 113 v3))]) (kNorm tau 0 nx71_1 k) = lp71_1 f (fun x0 x1 => k (Ex.exit 2) (fillS nx71_1 N71 [.ptr 1824 [], .ptr 1825 []] [(1824, .box false 113 (PV.ar 113 x0)), (1825, .box false 113 (PV.ar 113 x1))])) n v0 v1 v2 v3 | 0, _, _, _, _ => rfl | n + 1, v0, v1, v2, v3 => (lpR71_1 f k n v0 v1 v2 v3).trans (congrArg (fun r => lpS71_1 f r (fun x0 x1 => k (Ex.exit 2) (fillS nx71_1 N71 [.ptr 1824 [], .ptr 1825 []] [(1824, .box false 113 (PV.ar 113 x0)), (1825, .box false 113 (PV.ar 113 x1))])) v0 v1 v2 v3) (by funext v0 v1 v2 v3; exact lpE71_1 f k n v0 v1 v2 v3))
def r71_1 (f : Nat) : List PV → List (Nat × Ent) → Kont → Option Res
  | [.ptr 1824 [], .ptr 1825 [], .ptr 1826 [],
  PV.sc
    (Value.int IntKind.i64
      v0)], [(1824, .box false 113 (PV.ar 113 v1)), (1825, .box false 113 (PV.ar 113 v2)),
  (1826,
    Ent.box false 113
      (PV.ar 113
        v3))], k => lp71_1 f (fun x0 x1 => k (Ex.exit
  2) (fillS nx71_1 N71 [.ptr 1824 [], .ptr 1825 []] [(1824, .box false 113 (PV.ar 113 x0)), (1825, .box false 113 (PV.ar 113 x1))])) f v0 v1 v2 v3
  | _, _, _ => none
theorem it71_1 (f : Nat) : items c71_1 x71_1 = [] := by kernel_rfl
theorem i31_1 (f : Nat) : (Item.l c71_1 nm71_1 N71 (r71_1 f)).Ok tau Try.prog 0 := loop_item tabOk F71_ok mixed (x := x71_1) (nm2 := nx71_1) (anOk_items _ _ (by rw [it71_1 f]; intro q hq; cases hq)) fun vs hp k res hr => by
  unfold r71_1 at hr
  split at hr
  · exact ⟨f, 0, (lpE71_1 f _ f _ _ _ _ ).trans hr⟩
  · cases hr
def g71 (f : Nat) (s : List PV) (nl : Bool) (fl : Bool) (b : List PV) (k : Res → Option Res) : Option Res := bif allInt IntKind.u8 b && decide (b.length = 64) then lp71_0 f (fun x0_0 x1_0 x2_0 => lp71_1 f (fun x0_1 x1_1 => k (Res.mk (.ar 113 x1_1) [] [])) f (0) x0_0 x1_0 x2_0) f (0) s ([.sc (.int .u32 0), .sc (.int .u32 0), .sc (.int .u32 0), .sc (.int .u32 0), .sc (.int .u32 0), .sc (.int .u32 0), .sc (.int .u32 0), .sc (.int .u32 0)]) (pu IntKind.u32 (spreadP (ints b))) ([.sc (.int .u32 1116352408), .sc (.int .u32 1899447441), .sc (.int .u32 3049323471), .sc (.int .u32 3921009573), .sc (.int .u32 961987163), .sc (.int .u32 1508970993), .sc (.int .u32 2453635748), .sc (.int .u32 2870763221), .sc (.int .u32 3624381080), .sc (.int .u32 310598401), .sc (.int .u32 607225278), .sc (.int .u32 1426881987), .sc (.int .u32 1925078388), .sc (.int .u32 2162078206), .sc (.int .u32 2614888103), .sc (.int .u32 3248222580), .sc (.int .u32 3835390401), .sc (.int .u32 4022224774), .sc (.int .u32 264347078), .sc (.int .u32 604807628), .sc (.int .u32 770255983), .sc (.int .u32 1249150122), .sc (.int .u32 1555081692), .sc (.int .u32 1996064986), .sc (.int .u32 2554220882), .sc (.int .u32 2821834349), .sc (.int .u32 2952996808), .sc (.int .u32 3210313671), .sc (.int .u32 3336571891), .sc (.int .u32 3584528711), .sc (.int .u32 113926993), .sc (.int .u32 338241895), .sc (.int .u32 666307205), .sc (.int .u32 773529912), .sc (.int .u32 1294757372), .sc (.int .u32 1396182291), .sc (.int .u32 1695183700), .sc (.int .u32 1986661051), .sc (.int .u32 2177026350), .sc (.int .u32 2456956037), .sc (.int .u32 2730485921), .sc (.int .u32 2820302411), .sc (.int .u32 3259730800), .sc (.int .u32 3345764771), .sc (.int .u32 3516065817), .sc (.int .u32 3600352804), .sc (.int .u32 4094571909), .sc (.int .u32 275423344), .sc (.int .u32 430227734), .sc (.int .u32 506948616), .sc (.int .u32 659060556), .sc (.int .u32 883997877), .sc (.int .u32 958139571), .sc (.int .u32 1322822218), .sc (.int .u32 1537002063), .sc (.int .u32 1747873779), .sc (.int .u32 1955562222), .sc (.int .u32 2024104815), .sc (.int .u32 2227730452), .sc (.int .u32 2361852424), .sc (.int .u32 2428436474), .sc (.int .u32 2756734187), .sc (.int .u32 3204031479), .sc (.int .u32 3329325298)]) s else none
theorem e71 (f : Nat) (s : List PV) (nl : Bool) (fl : Bool) (b : List PV) (k : Res → Option Res) : evFn tau F71 Try.f71 (Try.f71.body.get!) (an71 (r71_0 f) (r71_1 f)) [] 0 [.ar 113 s, .ro 5 nl fl b] [] k = g71 f s nl fl b k := by kernel_rfl
theorem it71 (f : Nat) : items (Try.f71.body.get!) (an71 (r71_0 f) (r71_1 f)) = [.l c71_0 nm71_0 N71 (r71_0 f), .l c71_1 nm71_1 N71 (r71_1 f)] := by kernel_rfl
theorem ia71 (f : Nat) : ∀ q ∈ items (Try.f71.body.get!) (an71 (r71_0 f) (r71_1 f)), q.Ok tau Try.prog 0 := by
  rw [it71 f]; simp only [List.forall_mem_cons, List.not_mem_nil, false_implies, implies_true, and_true]; exact ⟨i31_0 f, i31_1 f⟩
theorem fo71 : Try.prog.funcs[71]? = some Try.f71 := by kernel_rfl
theorem bo71 : Try.f71.body = some (Try.f71.body.get!) := by kernel_rfl
theorem en71 : Enters Try.prog 71 := enters_of fo71 (by kernel_rfl) bo71
end Go.Proofs.Ytcklhipdldpkhaa.Rx

-- FN (sha.state).add
namespace Go.Proofs.Ytcklhipdldpkhaa.Rx
open Go
set_option linter.unusedVariables false
set_option maxRecDepth 100000
set_option maxHeartbeats 1000000
theorem getD8 {R : List Int} (h : R.length = 8) (j : Nat) (hj : j < 8) : (pu .u32 R).getD j .top = .sc (.int .u32 (R.getD j 0)) := pu_get (by omega)
theorem l71_0 (W s : List Int) (hW : W.length = 64) (hs : s.length = 8) (f : Nat) (k0 : List PV → List PV → List PV → Option Res) (a b : List PV) : ∀ (d i n : Nat), i + d = 64 → d < n →
    lp71_0 f k0 n (i : Int) a b (pu .u32 W) (pu .u32 kks) (pu .u32 (rnds W s i)) = k0 a b (pu .u32 (rnds W s 64))
  | 0, i, n + 1, h, hn => by
      obtain rfl : i = 64 := by omega
      simp only [lp71_0, lpS71_0]
      exact bif_f (by decide)
  | d + 1, i, n + 1, h, hn => by
      have hl := rnds_length W s hs i
      have h1 : IntKind.i64.wrap ((i : Int) + 1) = ((i + 1 : Nat) : Int) := by rw [wrap_i64 (by omega) (by omega)]; omega
      have hk : (pu .u32 kks).getD i .top = .sc (.int .u32 (kks.getD i 0)) := pu_get (by show i < 64; omega)
      have hw : (pu .u32 W).getD i .top = .sc (.int .u32 (W.getD i 0)) := pu_get (by omega)
      have c1 : decide ((i : Int) < 64) = true := by simp; omega
      have c2 : decide (0 ≤ (i : Int)) = true := by simp
      have c3 : decide ((i : Int) < zi 64) = true := by simp; omega
      simp only [lp71_0, lpS71_0, getP_ar, Int.toNat_natCast, h1, hk, hw, c1, c2, c3, getD8 hl 0 (by omega), getD8 hl 1 (by omega), getD8 hl 2 (by omega), getD8 hl 3 (by omega), getD8 hl 4 (by omega), getD8 hl 5 (by omega), getD8 hl 6 (by omega), getD8 hl 7 (by omega), PV.isInt, PV.int, decide_true, Bool.and_true, cond_true]
      exact l71_0 W s hW hs f k0 a b d (i + 1) n (by omega) (by omega)
theorem l71_1 (t s : List Int) (ht : t.length = 8) (hs : s.length = 8) (f : Nat) (k0 : List PV → List PV → Option Res) (a : List PV) : ∀ (d i n : Nat), i + d = 8 → d < n →
    lp71_1 f k0 n (i : Int) (pu .u32 s) a (pu .u32 (fillM (fun j => ww (t.getD j 0 + s.getD j 0)) t i)) = k0 a (pu .u32 (fillM (fun j => ww (t.getD j 0 + s.getD j 0)) t 8))
  | 0, i, n + 1, h, hn => by
      obtain rfl : i = 8 := by omega
      simp only [lp71_1, lpS71_1]
      exact bif_f (by decide)
  | d + 1, i, n + 1, h, hn => by
      have hl : (fillM (fun j => ww (t.getD j 0 + s.getD j 0)) t i).length = 8 := by rw [fillM_length _ _ _ (by omega), ht]
      have h1 : IntKind.i64.wrap ((i : Int) + 1) = ((i + 1 : Nat) : Int) := by rw [wrap_i64 (by omega) (by omega)]; omega
      have c1 : decide ((i : Int) < 8) = true := by simp; omega
      have c2 : decide (0 ≤ (i : Int)) = true := by simp
      have c3 : decide ((i : Int) < zi 8) = true := by simp; omega
      have g1 : ((i : Int)).toNat = i := by omega
      simp only [lp71_1, lpS71_1, getP_ar, g1, h1, c1, c2, c3, getD8 hl i (by omega), getD8 hs i (by omega), fillM_get _ t i (by omega), PV.isInt, PV.int, decide_true, Bool.and_true, cond_true, pu_set]
      have := l71_1 t s ht hs f k0 a d (i + 1) n (by omega) (by omega)
      rw [← fillM_set _ t i (by omega)] at this
      exact this
theorem g71_eq (s bs : List Int) (hs : s.length = 8) (hb : bs.length = 64) (nl fl : Bool) (k : Res → Option Res) : g71 100 (pu .u32 s) nl fl (pu .u8 bs) k = k ⟨.ar 113 (pu .u32 (addP s bs)), [], []⟩ := by
  have hW : (spreadP bs).length = 64 := sched_length bs 48
  have hc : (allInt .u8 (pu .u8 bs) && decide ((pu .u8 bs).length = 64)) = true := by simp [hb]
  refine (bif_t hc).trans ?_
  rw [ints_pu]
  have h0 : ∀ k0 a b, lp71_0 100 k0 100 0 a b (pu .u32 (spreadP bs)) (pu .u32 kks) (pu .u32 s) = k0 a b (pu .u32 (rnds (spreadP bs) s 64)) := fun k0 a b => l71_0 (spreadP bs) s hW hs 100 k0 a b 64 0 100 (by omega) (by omega)
  have ht := rnds_length (spreadP bs) s hs 64
  have h1 : ∀ k0 a, lp71_1 100 k0 100 0 (pu .u32 s) a (pu .u32 (rnds (spreadP bs) s 64)) = k0 a (pu .u32 (addP s bs)) := by
    intro k0 a
    have := l71_1 (rnds (spreadP bs) s 64) s ht hs 100 k0 a 8 0 100 (by omega) (by omega)
    rw [fillM_zero] at this
    refine this.trans ?_
    have h2 := fillM_full (fun j => ww ((rnds (spreadP bs) s 64).getD j 0 + s.getD j 0)) (rnds (spreadP bs) s 64)
    rw [ht] at h2; rw [h2]; rfl
  exact (h0 _ _ _).trans (h1 _ _)
def run71' : List PV → List Ent → (Res → Option Res) → Option Res
  | [.ar 113 s, .ro 5 nl fl b], [], k => bif (allInt .u32 s && decide (s.length = 8)) && (allInt .u8 b && decide (b.length = 64)) then k ⟨.ar 113 (pu .u32 (addP (ints s) (ints b))), [], []⟩ else none
  | _, _, _ => none
def s71' : Sig := { own := [], run := run71' }
theorem ok71' : CallOk tau Try.prog 71 s71' := fn_ok tabOk F71_ok mixed fo71 bo71 _ [] 0 [] run71' (ia71 100) fun xs es k res hr => by
  unfold run71' at hr
  split at hr
  · obtain ⟨hc, hr⟩ := of_bif hr
    simp only [Bool.and_eq_true, decide_eq_true_eq] at hc
    refine ⟨rfl, 0, (e71 100 _ _ _ _ _).trans ?_⟩
    rw [pu_ints hc.2.1, pu_ints hc.1.1, g71_eq _ _ (by simpa using hc.1.2) (by simpa using hc.2.2)]
    exact hr
  · cases hr
end Go.Proofs.Ytcklhipdldpkhaa.Rx

namespace Go.Proofs.Ytcklhipdldpkhaa.Rx
open Go
set_option linter.unusedVariables false
set_option maxRecDepth 100000
set_option maxHeartbeats 0
noncomputable def F121 : Fns := F0
theorem F121_ok : FnsOk tau Try.prog F121 := F0_ok
def an121 : An := (.seq .leaf (.seq (.seq .leaf (.cond .leaf .leaf)) (.seq (.seq .leaf (.seq .leaf (.cond .leaf .leaf))) (.seq .leaf .leaf))))
noncomputable def g121 (f : Nat) (n : Int) (k : Res → Option Res) : Option Res := bif decide (n < 0) then none else bif decide (IntKind.i64.wrap (n - IntKind.i64.wrap (zi 0 - zi 0)) > 0) then bif decide (0 ≤ IntKind.i64.wrap (n - IntKind.i64.wrap (zi 0 - zi 0))) && roomy (IntKind.i64.wrap (n - IntKind.i64.wrap (zi 0 - zi 0))).toNat 1 && true then k (Res.mk (.ow 5 16 [] 0 0 none) [] [.vec false 5 (IntKind.i64.wrap (n - IntKind.i64.wrap (zi 0 - zi 0)) == 0) (List.replicate (IntKind.i64.wrap (n - IntKind.i64.wrap (zi 0 - zi 0))).toNat (.sc (.int .u8 0)))]) else none else k (Res.mk (.ro 5 true true []) [] [])
theorem e121 (f : Nat) (n : Int) (k : Res → Option Res) : evFn tau F121 Try.f121 (Try.f121.body.get!) an121 [] 0 [.ro 5 true true [], .sc (.int .i64 n)] [] k = g121 f n k := by kernel_rfl
theorem it121 (f : Nat) : items (Try.f121.body.get!) an121 = [] := by kernel_rfl
theorem ia121 (f : Nat) : ∀ q ∈ items (Try.f121.body.get!) an121, q.Ok tau Try.prog 0 := by
  rw [it121 f]; intro q hq; cases hq
theorem fo121 : Try.prog.funcs[121]? = some Try.f121 := by kernel_rfl
theorem bo121 : Try.f121.body = some (Try.f121.body.get!) := by kernel_rfl
theorem en121 : Enters Try.prog 121 := enters_of fo121 (by kernel_rfl) bo121
noncomputable def run121 : List PV → List Ent → (Res → Option Res) → Option Res
  | [.ro 5 true true [], .sc (.int .i64 n)], [], k => g121 0 n k
  | _, _, _ => none
noncomputable def s121 : Sig := { own := [], run := run121 }
theorem ok121 : CallOk tau Try.prog 121 s121 := fn_ok tabOk F121_ok mixed fo121 bo121 an121 [] 0 [] run121 (ia121 0) fun xs es k res hr => by
  unfold run121 at hr
  split at hr
  · exact ⟨rfl, 0, (e121 0 _  _).trans hr⟩
  · cases hr
end Go.Proofs.Ytcklhipdldpkhaa.Rx

namespace Go.Proofs.Ytcklhipdldpkhaa.Rx
open Go
set_option linter.unusedVariables false
set_option maxRecDepth 100000
set_option maxHeartbeats 0
def N70 : Nat := 36
noncomputable def F70 : Fns := addF 121 s121 (F0)
theorem F70_ok : FnsOk tau Try.prog F70 := (F0_ok).add ok121 en121
noncomputable def c70_0 : Code := subC (Try.f70.body.get!) [1, 1, 0, 1, 0, 0]
def nm70_0 : Nm := [(0, .any), (3, .any), (9, .any), (10, .any), (11, .any)]
def nx70_0 : Nm := [(0, .any), (3, .any)]
def x70_0 : An := (.seq .leaf (.seq (.cond .leaf .leaf) (.seq (.block none (.seq .leaf (.seq .leaf (.seq .leaf (.cond .leaf .leaf))))) .leaf)))
noncomputable def c70_1 : Code := subC (Try.f70.body.get!) [1, 1, 1, 1, 0, 1, 0, 0]
def nm70_1 : Nm := [(6, .own), (25, .any), (26, .any), (27, .any)]
def nx70_1 : Nm := [(6, .any)]
def x70_1 : An := (.seq .leaf (.seq (.cond .leaf .leaf) (.seq (.block none (.seq .leaf .leaf)) .leaf)))
def an70 (r0 : RunL) (r1 : RunL) : An := (.seq .leaf (.seq .leaf (.seq (.seq .leaf (.block none (.sum nm70_0 N70 r0))) (.seq .leaf (.seq (.seq .leaf (.block none (.sum nm70_1 N70 r1))) (.seq .leaf .leaf))))))
noncomputable def lpS70_0 (f : Nat) (rc : Bool → Bool → List PV → Int → Bool → Bool → List PV → Int → Int → Option Res) (k0 : Bool → Bool → List PV → Int → Option Res) (v0 : Bool) (v1 : Bool) (v2 : List PV) (v3 : Int) (v4 : Bool) (v5 : Bool) (v6 : List PV) (v7 : Int) (v8 : Int) : Option Res := bif decide (v8 < v7) then bif decide (0 ≤ v8) && decide (v8 < zi v6.length) && PV.isRo 5 (v6.getD v8.toNat PV.top) && true then bif decide (IntKind.i64.wrap (v3 + zi (v6.getD v8.toNat PV.top).els.length) < 0) then none else rc v0 v1 v2 (IntKind.i64.wrap (v3 + zi (v6.getD v8.toNat PV.top).els.length)) v4 v5 v6 v7 (IntKind.i64.wrap (v8 + 1)) else none else k0 v0 v1 v2 v3
noncomputable def lp70_0 (f : Nat) (k0 : Bool → Bool → List PV → Int → Option Res) : Nat → Bool → Bool → List PV → Int → Bool → Bool → List PV → Int → Int → Option Res
  | 0, _, _, _, _, _, _, _, _, _ => none
  | n + 1, v0, v1, v2, v3, v4, v5, v6, v7, v8 => lpS70_0 f (lp70_0 f k0 n) k0 v0 v1 v2 v3 v4 v5 v6 v7 v8
theorem lpR70_0 (f : Nat) (k : Kont) (n : Nat) (v0 : Bool) (v1 : Bool) (v2 : List PV) (v3 : Int) (v4 : Bool) (v5 : Bool) (v6 : List PV) (v7 : Int) (v8 : Int) : evLoop tau 0 nm70_0 (fun s k => ev tau F70 0 0 c70_0 (x70_0 ) s k) (n + 1) (fillS nm70_0 N70 [.ro 29 v0 v1 v2, .sc (.int .i64 v3), .ro 29 v4 v5 v6, .sc (.int .i64 v7), .sc (.int .i64 v8)] []) (kNorm tau 0 nx70_0 k) = lpS70_0 f (fun v0 v1 v2 v3 v4 v5 v6 v7 v8 => evLoop tau 0 nm70_0 (fun s k => ev tau F70 0 0 c70_0 (x70_0 ) s k) n (fillS nm70_0 N70 [.ro 29 v0 v1 v2, .sc (.int .i64 v3), .ro 29 v4 v5 v6, .sc (.int .i64 v7), .sc (.int .i64 v8)] []) (kNorm tau 0 nx70_0 k)) (fun x0 x1 x2 x3 => k (Ex.exit 0) (fillS nx70_0 N70 [.ro 29 x0 x1 x2, .sc (.int .i64 x3)] [])) v0 v1 v2 v3 v4 v5 v6 v7 v8 := by kernel_rfl
theorem lpE70_0 (f : Nat) (k : Kont) : ∀ (n : Nat) (v0 : Bool) (v1 : Bool) (v2 : List PV) (v3 : Int) (v4 : Bool) (v5 : Bool) (v6 : List PV) (v7 : Int) (v8 : Int), evLoop tau 0 nm70_0 (fun s k => ev tau F70 0 0 c70_0 (x70_0 ) s k) n (fillS nm70_0 N70 [.ro 29 v0 v1 v2, .sc (.int .i64 v3), .ro 29 v4 v5 v6, .sc (.int .i64 v7), .sc (.int .i64 v8)] []) (kNorm tau 0 nx70_0 k) = lp70_0 f (fun x0 x1 x2 x3 => k (Ex.exit 0) (fillS nx70_0 N70 [.ro 29 x0 x1 x2, .sc (.int .i64 x3)] [])) n v0 v1 v2 v3 v4 v5 v6 v7 v8 | 0, _, _, _, _, _, _, _, _, _ => rfl | n + 1, v0, v1, v2, v3, v4, v5, v6, v7, v8 => (lpR70_0 f k n v0 v1 v2 v3 v4 v5 v6 v7 v8).trans (congrArg (fun r => lpS70_0 f r (fun x0 x1 x2 x3 => k (Ex.exit 0) (fillS nx70_0 N70 [.ro 29 x0 x1 x2, .sc (.int .i64 x3)] [])) v0 v1 v2 v3 v4 v5 v6 v7 v8) (by funext v0 v1 v2 v3 v4 v5 v6 v7 v8; exact lpE70_0 f k n v0 v1 v2 v3 v4 v5 v6 v7 v8))
noncomputable def r70_0 (f : Nat) : List PV → List (Nat × Ent) → Kont → Option Res
  | [.ro 29 v0 v1 v2, .sc (.int .i64 v3), .ro 29 v4 v5 v6, .sc (.int .i64 v7),
  .sc (.int .i64 v8)], [], k => lp70_0 f (fun x0 x1 x2 x3 => k (Ex.exit 0) (fillS nx70_0 N70 [.ro 29 x0 x1 x2, .sc (.int .i64 x3)] [])) f v0 v1 v2 v3 v4 v5 v6 v7 v8
  | _, _, _ => none
theorem it70_0 (f : Nat) : items c70_0 x70_0 = [] := by kernel_rfl
theorem i70_0 (f : Nat) : (Item.l c70_0 nm70_0 N70 (r70_0 f)).Ok tau Try.prog 0 := loop_item tabOk F70_ok mixed (x := x70_0) (nm2 := nx70_0) (anOk_items _ _ (by rw [it70_0 f]; intro q hq; cases hq)) fun vs hp k res hr => by
  unfold r70_0 at hr
  split at hr
  · exact ⟨f, 0, (lpE70_0 f _ f _ _ _ _ _ _ _ _ _ ).trans hr⟩
  · cases hr
noncomputable def lpS70_1 (f : Nat) (rc : Nat → Bool → Bool → List PV → Int → Int → Bool → List PV → Option Res) (k0 : Nat → Bool → List PV → Option Res) (v0 : Nat) (v1 : Bool) (v2 : Bool) (v3 : List PV) (v4 : Int) (v5 : Int) (v6 : Bool) (v7 : List PV) : Option Res := bif decide (v5 < v4) then bif decide (0 ≤ v5) && decide (v5 < zi v3.length) && PV.isRo 5 (v3.getD v5.toNat PV.top) && true then bif roomy (v0 + (v3.getD v5.toNat PV.top).els.length) 1 && true then rc (v0 + (v3.getD v5.toNat PV.top).els.length) v1 v2 v3 v4 (IntKind.i64.wrap (v5 + 1)) (v6 && (v3.getD v5.toNat PV.top).els.isEmpty) (List.take v0 v7 ++ (v3.getD v5.toNat PV.top).els) else none else none else k0 v0 v6 v7
noncomputable def lp70_1 (f : Nat) (k0 : Nat → Bool → List PV → Option Res) : Nat → Nat → Bool → Bool → List PV → Int → Int → Bool → List PV → Option Res
  | 0, _, _, _, _, _, _, _, _ => none
  | n + 1, v0, v1, v2, v3, v4, v5, v6, v7 => lpS70_1 f (lp70_1 f k0 n) k0 v0 v1 v2 v3 v4 v5 v6 v7
theorem lpR70_1 (f : Nat) (k : Kont) (n : Nat) (v0 : Nat) (v1 : Bool) (v2 : Bool) (v3 : List PV) (v4 : Int) (v5 : Int) (v6 : Bool) (v7 : List PV) : evLoop tau 0 nm70_1 (fun s k => ev tau F70 0 0 c70_1 (x70_1 ) s k) (n + 1) (fillS nm70_1 N70 [.ow 5 592 [] 0 v0 none, .ro 29 v1 v2 v3, .sc (.int .i64 v4), .sc (.int .i64 v5)] [(592, .vec false 5 v6 v7)]) (kNorm tau 0 nx70_1 k) = lpS70_1 f (fun v0 v1 v2 v3 v4 v5 v6 v7 => evLoop tau 0 nm70_1 (fun s k => ev tau F70 0 0 c70_1 (x70_1 ) s k) n (fillS nm70_1 N70 [.ow 5 592 [] 0 v0 none, .ro 29 v1 v2 v3, .sc (.int .i64 v4), .sc (.int .i64 v5)] [(592, .vec false 5 v6 v7)]) (kNorm tau 0 nx70_1 k)) (fun x0 x1 x2 => k (Ex.exit 2) (fillS nx70_1 N70 [.ow 5 592 [] 0 x0 none] [(592, .vec false 5 x1 x2)])) v0 v1 v2 v3 v4 v5 v6 v7 := by kernel_rfl
theorem lpE70_1 (f : Nat) (k : Kont) : ∀ (n : Nat) (v0 : Nat) (v1 : Bool) (v2 : Bool) (v3 : List PV) (v4 : Int) (v5 : Int) (v6 : Bool) (v7 : List PV), evLoop tau 0 nm70_1 (fun s k => ev tau F70 0 0 c70_1 (x70_1 ) s k) n (fillS nm70_1 N70 [.ow 5 592 [] 0 v0 none, .ro 29 v1 v2 v3, .sc (.int .i64 v4), .sc (.int .i64 v5)] [(592, .vec false 5 v6 v7)]) (kNorm tau 0 nx70_1 k) = lp70_1 f (fun x0 x1 x2 => k (Ex.exit 2) (fillS nx70_1 N70 [.ow 5 592 [] 0 x0 none] [(592, .vec false 5 x1 x2)])) n v0 v1 v2 v3 v4 v5 v6 v7 | 0, _, _, _, _, _, _, _, _ => rfl | n + 1, v0, v1, v2, v3, v4, v5, v6, v7 => (lpR70_1 f k n v0 v1 v2 v3 v4 v5 v6 v7).trans (congrArg (fun r => lpS70_1 f r (fun x0 x1 x2 => k (Ex.exit 2) (fillS nx70_1 N70 [.ow 5 592 [] 0 x0 none] [(592, .vec false 5 x1 x2)])) v0 v1 v2 v3 v4 v5 v6 v7) (by funext v0 v1 v2 v3 v4 v5 v6 v7; exact lpE70_1 f k n v0 v1 v2 v3 v4 v5 v6 v7))
noncomputable def r70_1 (f : Nat) : List PV → List (Nat × Ent) → Kont → Option Res
  | [.ow 5 592 [] 0 v0 none, .ro 29 v1 v2 v3, .sc (.int .i64 v4),
  PV.sc
    (Value.int IntKind.i64
      v5)], [(592, .vec false 5 v6 v7)], k => lp70_1 f (fun x0 x1 x2 => k (Ex.exit 2) (fillS nx70_1 N70 [.ow 5 592 [] 0 x0 none] [(592, .vec false 5 x1 x2)])) f v0 v1 v2 v3 v4 v5 v6 v7
  | _, _, _ => none
theorem it70_1 (f : Nat) : items c70_1 x70_1 = [] := by kernel_rfl
theorem i70_1 (f : Nat) : (Item.l c70_1 nm70_1 N70 (r70_1 f)).Ok tau Try.prog 0 := loop_item tabOk F70_ok mixed (x := x70_1) (nm2 := nx70_1) (anOk_items _ _ (by rw [it70_1 f]; intro q hq; cases hq)) fun vs hp k res hr => by
  unfold r70_1 at hr
  split at hr
  · exact ⟨f, 0, (lpE70_1 f _ f _ _ _ _ _ _ _ _ ).trans hr⟩
  · cases hr
noncomputable def g70 (f : Nat) (slices_z : Bool) (slices_f : Bool) (slices : List PV) (k : Res → Option Res) : Option Res := lp70_0 f (fun x0_0 x1_0 x2_0 x3_0 => bif decide (x3_0 < 0) then none else bif decide (IntKind.i64.wrap (x3_0 - IntKind.i64.wrap (zi 0 - zi 0)) > 0) then bif decide (0 ≤ IntKind.i64.wrap (x3_0 - IntKind.i64.wrap (zi 0 - zi 0))) && roomy (IntKind.i64.wrap (x3_0 - IntKind.i64.wrap (zi 0 - zi 0))).toNat 1 && true then lp70_1 f (fun x0_1 x1_1 x2_1 => k (Res.mk (.ow 5 16 [] 0 x0_1 none) [] [.vec false 5 x1_1 x2_1])) f (0) x0_0 x1_0 x2_0 (zi x2_0.length) (0) (IntKind.i64.wrap (x3_0 - IntKind.i64.wrap (zi 0 - zi 0)) == 0) (List.replicate (IntKind.i64.wrap (x3_0 - IntKind.i64.wrap (zi 0 - zi 0))).toNat (.sc (.int .u8 0))) else none else lp70_1 f (fun x0_2 x1_2 x2_2 => k (Res.mk (.ow 5 16 [] 0 x0_2 none) [] [.vec false 5 x1_2 x2_2])) f (0) x0_0 x1_0 x2_0 (zi x2_0.length) (0) true ([])) f slices_z slices_f slices (0) slices_z slices_f slices (zi slices.length) (0)
theorem e70 (f : Nat) (slices_z : Bool) (slices_f : Bool) (slices : List PV) (k : Res → Option Res) : evFn tau F70 Try.f70 (Try.f70.body.get!) (an70 (r70_0 f) (r70_1 f)) [] 0 [.ro 29 slices_z slices_f slices] [] k = g70 f slices_z slices_f slices k := by kernel_rfl
theorem it70 (f : Nat) : items (Try.f70.body.get!) (an70 (r70_0 f) (r70_1 f)) = [.l c70_0 nm70_0 N70 (r70_0 f), .l c70_1 nm70_1 N70 (r70_1 f)] := by kernel_rfl
theorem ia70 (f : Nat) : ∀ q ∈ items (Try.f70.body.get!) (an70 (r70_0 f) (r70_1 f)), q.Ok tau Try.prog 0 := by
  rw [it70 f]; simp only [List.forall_mem_cons, List.not_mem_nil, false_implies, implies_true, and_true]; exact ⟨i70_0 f, i70_1 f⟩
theorem fo70 : Try.prog.funcs[70]? = some Try.f70 := by kernel_rfl
theorem bo70 : Try.f70.body = some (Try.f70.body.get!) := by kernel_rfl
theorem en70 : Enters Try.prog 70 := enters_of fo70 (by kernel_rfl) bo70
end Go.Proofs.Ytcklhipdldpkhaa.Rx

-- FN slices.Concat[[]byte,byte]
namespace Go.Proofs.Ytcklhipdldpkhaa.Rx
open Go
set_option linter.unusedVariables false
set_option maxRecDepth 100000
set_option maxHeartbeats 4000000
def flat (l : List PV) : List PV := (l.map PV.els).flatten
@[simp] theorem flat_nil : flat [] = [] := rfl
@[simp] theorem flat_cons (p : PV) (l : List PV) : flat (p :: l) = p.els ++ flat l := by simp [flat]
theorem flat_append (a b : List PV) : flat (a ++ b) = flat a ++ flat b := by simp [flat]
theorem take_succ_getD (l : List PV) (i : Nat) (h : i < l.length) : l.take (i + 1) = l.take i ++ [l.getD i .top] := by
  rw [List.take_add_one, List.getD_eq_getElem?_getD, List.getElem?_eq_getElem h]; rfl
theorem drop_getD (l : List PV) (i : Nat) (h : i < l.length) : l.drop i = l.getD i .top :: l.drop (i + 1) := by
  rw [List.drop_eq_getElem_cons h, List.getD_eq_getElem?_getD, List.getElem?_eq_getElem h]; rfl
theorem flat_take (l : List PV) (i : Nat) (h : i < l.length) : flat (l.take (i + 1)) = flat (l.take i) ++ (l.getD i .top).els := by
  rw [take_succ_getD l i h, flat_append, flat_cons, flat_nil, List.append_nil]
theorem flat_take_le (l : List PV) (i : Nat) : (flat (l.take i)).length ≤ (flat l).length := by
  have : flat l = flat (l.take i) ++ flat (l.drop i) := by rw [← flat_append, List.take_append_drop]
  rw [this, List.length_append]; omega
theorem isRo_getD {l : List PV} (h : l.all (PV.isRo 5) = true) {i : Nat} (hi : i < l.length) : (l.getD i .top).isRo 5 = true := by
  rw [List.getD_eq_getElem?_getD, List.getElem?_eq_getElem hi]
  exact List.all_eq_true.1 h _ (List.getElem_mem hi)
theorem isEmpty_app {α : Type} (a b : List α) : (a ++ b).isEmpty = (a.isEmpty && b.isEmpty) := by cases a <;> rfl
theorem l70_0 (f : Nat) (k0 : Bool → Bool → List PV → Int → Option Res) (a b : Bool) (c : List PV) (nl fl : Bool) (l : List PV) (hl : l.all (PV.isRo 5) = true) (hs : (flat l).length ≤ 140737488355328) (hn : l.length ≤ 140737488355328) : ∀ (d i n : Nat), i + d = l.length → d < n →
    lp70_0 f k0 n a b c ((flat (l.take i)).length : Int) nl fl l (l.length : Int) (i : Int) = k0 a b c ((flat l).length : Int)
  | 0, i, n + 1, h, hd => by
      obtain rfl : i = l.length := by omega
      simp only [lp70_0, lpS70_0]
      exact (bif_f (by simp)).trans (by rw [List.take_length])
  | d + 1, i, n + 1, h, hd => by
      have hle := flat_take_le l (i + 1)
      have hadd : (flat (l.take (i + 1))).length = (flat (l.take i)).length + (l.getD i .top).els.length := by rw [flat_take l i (by omega), List.length_append]
      have h1 : IntKind.i64.wrap ((i : Int) + 1) = ((i + 1 : Nat) : Int) := by rw [wrap_i64 (by omega) (by omega)]; omega
      have h2 : IntKind.i64.wrap (((flat (l.take i)).length : Int) + ((l.getD i .top).els.length : Int)) = ((flat (l.take (i + 1))).length : Int) := by rw [wrap_i64 (by omega) (by omega)]; omega
      simp only [lp70_0, lpS70_0, zi, Int.toNat_natCast, h1, h2]
      refine (bif_t (by simp <;> omega)).trans ?_
      refine (bif_t (by rw [isRo_getD hl (by omega)]; simp; omega)).trans ?_
      refine (bif_f (by simp <;> omega)).trans ?_
      exact l70_0 f k0 a b c nl fl l hl hs hn d (i + 1) n (by omega) (by omega)
theorem l70_1 (f : Nat) (k0 : Nat → Bool → List PV → Option Res) (nl fl : Bool) (l : List PV) (hl : l.all (PV.isRo 5) = true) (hs : (flat l).length ≤ 140737488355328) (hn : l.length ≤ 140737488355328) : ∀ (d i n : Nat) (z : Bool) (v : List PV), i + d = l.length → d < n → v.take (flat (l.take i)).length = flat (l.take i) → (d = 0 → v = flat l) →
    lp70_1 f k0 n (flat (l.take i)).length nl fl l (l.length : Int) (i : Int) z v = k0 (flat l).length (z && (flat (l.drop i)).isEmpty) (flat l)
  | 0, i, n + 1, z, v, h, hd, hv, h0 => by
      obtain rfl : i = l.length := by omega
      simp only [lp70_1, lpS70_1]
      refine (bif_f (by simp)).trans ?_
      rw [List.take_length, h0 rfl, List.drop_length]; simp
  | d + 1, i, n + 1, z, v, h, hd, hv, h0 => by
      have hle := flat_take_le l (i + 1)
      have hadd : (flat (l.take (i + 1))).length = (flat (l.take i)).length + (l.getD i .top).els.length := by rw [flat_take l i (by omega), List.length_append]
      have h1 : IntKind.i64.wrap ((i : Int) + 1) = ((i + 1 : Nat) : Int) := by rw [wrap_i64 (by omega) (by omega)]; omega
      simp only [lp70_1, lpS70_1, zi, Int.toNat_natCast, h1, hv]
      refine (bif_t (by simp <;> omega)).trans ?_
      refine (bif_t (by rw [isRo_getD hl (by omega)]; simp; omega)).trans ?_
      refine (bif_t (by simp only [roomy, Bool.and_true, decide_eq_true_eq]; omega)).trans ?_
      have := l70_1 f k0 nl fl l hl hs hn d (i + 1) n (z && (l.getD i .top).els.isEmpty) (flat (l.take (i + 1))) (by omega) (by omega) (List.take_length) (fun hd0 => by rw [show i + 1 = l.length from by omega, List.take_length])
      rw [hadd, flat_take l i (by omega)] at this
      rw [this, drop_getD l i (by omega), flat_cons, isEmpty_app, Bool.and_assoc]
def run70' : List PV → List Ent → (Res → Option Res) → Option Res
  | [.ro 29 nl fl l], [], k => bif l.all (PV.isRo 5) && (decide ((flat l).length ≤ 140737488355328) && decide (l.length ≤ 140737488355328)) then k ⟨.ow 5 16 [] 0 (flat l).length none, [], [.vec false 5 (flat l).isEmpty (flat l)]⟩ else none
  | _, _, _ => none
def s70' : Sig := { own := [], run := run70' }
theorem g70_eq (nl fl : Bool) (l : List PV) (k : Res → Option Res) (hl : l.all (PV.isRo 5) = true) (hs : (flat l).length ≤ 140737488355328) (hn : l.length ≤ 140737488355328) :
    g70 (l.length + 1) nl fl l k = k ⟨.ow 5 16 [] 0 (flat l).length none, [], [.vec false 5 (flat l).isEmpty (flat l)]⟩ := by
  have h0 := l70_0 (l.length + 1) (fun x0_0 x1_0 x2_0 x3_0 =>
    bif decide (x3_0 < 0) then
      none
    else bif decide (IntKind.i64.wrap (x3_0 - IntKind.i64.wrap (zi 0 - zi 0)) > 0) then
      bif decide (0 ≤ IntKind.i64.wrap (x3_0 - IntKind.i64.wrap (zi 0 - zi 0))) && roomy (IntKind.i64.wrap (x3_0 - IntKind.i64.wrap (zi 0 - zi 0))).toNat 1 && true then
        lp70_1 (l.length + 1) (fun x0_1 x1_1 x2_1 =>
          k (Res.mk (PV.ow 5 16 [] 0 x0_1 none) []
            [Ent.vec false 5 x1_1
                x2_1])) (l.length + 1) (0) x0_0 x1_0 x2_0 (zi
          x2_0.length) (0) (IntKind.i64.wrap (x3_0 - IntKind.i64.wrap (zi 0 - zi 0)) ==
          0) (List.replicate (IntKind.i64.wrap (x3_0 - IntKind.i64.wrap (zi 0 - zi 0))).toNat (PV.sc (Value.int IntKind.u8 0)))
      else none
    else lp70_1 (l.length + 1) (fun x0_2 x1_2 x2_2 =>
      k (Res.mk (PV.ow 5 16 [] 0 x0_2 none) [] [Ent.vec false 5 x1_2 x2_2])) (l.length + 1) (0) x0_0 x1_0 x2_0 (zi x2_0.length) (0) true ([])) nl fl l nl fl l hl hs hn l.length 0 (l.length + 1) (by omega) (by omega)
  refine h0.trans ?_
  have hw : IntKind.i64.wrap (((flat l).length : Int) - IntKind.i64.wrap (zi 0 - zi 0)) = ((flat l).length : Int) := by
    have : IntKind.i64.wrap (zi 0 - zi 0) = 0 := by decide
    rw [this, wrap_i64 (by omega) (by omega)]; omega
  simp only [hw]
  refine (bif_f (by simp <;> omega)).trans ?_
  cases he : (flat l).isEmpty with
  | true =>
    have he' : flat l = [] := by simpa using he
    refine (bif_f (by simp [he'])).trans ?_
    have := l70_1 (l.length + 1) (fun x0_2 x1_2 x2_2 => k (Res.mk (PV.ow 5 16 [] 0 x0_2 none) [] [Ent.vec false 5 x1_2 x2_2])) nl fl l hl hs hn l.length 0 (l.length + 1) true [] (by omega) (by omega) (by simp) (fun _ => he'.symm)
    refine this.trans ?_
    simp [he']
  | false =>
    have he' : flat l ≠ [] := by simpa using he
    have hpos : 0 < (flat l).length := List.length_pos_iff.2 he'
    have hl0 : l.length ≠ 0 := by
      intro h; rw [List.length_eq_zero_iff] at h; subst h; simp at he'
    refine (bif_t (by simp <;> omega)).trans ?_
    refine (bif_t (by simp [roomy] <;> omega)).trans ?_
    have := l70_1 (l.length + 1) (fun x0_2 x1_2 x2_2 => k (Res.mk (PV.ow 5 16 [] 0 x0_2 none) [] [Ent.vec false 5 x1_2 x2_2])) nl fl l hl hs hn l.length 0 (l.length + 1) (((flat l).length : Int) == 0) (List.replicate (((flat l).length : Int)).toNat (PV.sc (Value.int IntKind.u8 0))) (by omega) (by omega) (by simp) (fun h => absurd h hl0)
    refine this.trans ?_
    have hz : (((flat l).length : Int) == 0) = false := by simp [he']
    rw [hz]; rfl
theorem ok70' : CallOk tau Try.prog 70 s70' := fn_ok2 tabOk F70_ok mixed fo70 bo70 (fun n => an70 (r70_0 n) (r70_1 n)) [] 0 [] run70' (fun n => ia70 n) fun xs es k res hr => by
  unfold run70' at hr
  split at hr
  · rename_i nl fl l
    obtain ⟨hc, hr⟩ := of_bif hr
    simp only [Bool.and_eq_true, decide_eq_true_eq] at hc
    refine ⟨rfl, l.length + 1, 0, (e70 _ _ _ _ _).trans ?_⟩
    rw [g70_eq _ _ _ _ hc.1 hc.2.1 hc.2.2]; exact hr
  · cases hr
end Go.Proofs.Ytcklhipdldpkhaa.Rx

namespace Go.Proofs.Ytcklhipdldpkhaa.Rx
open Go
set_option linter.unusedVariables false
set_option maxRecDepth 100000
set_option maxHeartbeats 0
def N69 : Nat := 33
noncomputable def F69 : Fns := F0
theorem F69_ok : FnsOk tau Try.prog F69 := F0_ok
noncomputable def c69_1 : Code := subC (Try.f69.body.get!) [1, 0, 1, 1, 1, 1, 0, 1, 0, 0]
def nm69_1 : Nm := [(0, .any), (3, .any), (19, .any)]
def nx69_1 : Nm := [(0, .any)]
def x69_1 : An := (.seq .leaf (.seq (.cond .leaf .leaf) (.seq (.block none (.seq .leaf .leaf)) .leaf)))
noncomputable def c69_0 : Code := subC (Try.f69.body.get!) [1, 0]
def nm69_0 : Nm := [(0, .any), (3, .any)]
def nx69_0 : Nm := [(2, .any)]
def x69_0 (r1 : RunL) : An := (.seq .leaf (.seq .leaf (.seq .leaf (.seq (.seq .leaf (.cond (.seq .leaf .leaf) .leaf)) (.seq (.seq .leaf (.block none (.sum nm69_1 N69 r1))) (.seq .leaf .leaf))))))
def an69 (r0 : RunS) (r1 : RunL) : An := (.seq .leaf (.ssum nm69_0 N69 (x69_0 r1) r0))
noncomputable def lpS69_1 (f : Nat) (rc : Nat → Int → Int → Bool → List PV → Option Res) (k0 : Nat → Bool → List PV → Option Res) (v0 : Nat) (v1 : Int) (v2 : Int) (v3 : Bool) (v4 : List PV) : Option Res := bif decide (v2 < 8) then bif decide (0 ≤ IntKind.i64.wrap (56 - IntKind.i64.wrap (8 * v2))) && true then bif roomy (v0 + 1) 1 && true then rc (v0 + 1) v1 (IntKind.i64.wrap (v2 + 1)) (v3 && false) (List.take v0 v4 ++ [.sc (.int .u8 (IntKind.u8.wrap (shrI IntKind.u64 v1 (IntKind.i64.wrap (56 - IntKind.i64.wrap (8 * v2))))))]) else none else none else k0 v0 v3 v4
noncomputable def lp69_1 (f : Nat) (k0 : Nat → Bool → List PV → Option Res) : Nat → Nat → Int → Int → Bool → List PV → Option Res
  | 0, _, _, _, _, _ => none
  | n + 1, v0, v1, v2, v3, v4 => lpS69_1 f (lp69_1 f k0 n) k0 v0 v1 v2 v3 v4
theorem lpR69_1 (f : Nat) (k : Kont) (n : Nat) (v0 : Nat) (v1 : Int) (v2 : Int) (v3 : Bool) (v4 : List PV) : evLoop tau 1 nm69_1 (fun s k => ev tau F69 1 0 c69_1 (x69_1 ) s k) (n + 1) (fillS nm69_1 N69 [.ow 5 545 [] 0 v0 none, .sc (.int .u64 v1), .sc (.int .i64 v2)] [(0, .dead), (545, .vec false 5 v3 v4)]) (kNorm tau 1 nx69_1 k) = lpS69_1 f (fun v0 v1 v2 v3 v4 => evLoop tau 1 nm69_1 (fun s k => ev tau F69 1 0 c69_1 (x69_1 ) s k) n (fillS nm69_1 N69 [.ow 5 545 [] 0 v0 none, .sc (.int .u64 v1), .sc (.int .i64 v2)] [(0, .dead), (545, .vec false 5 v3 v4)]) (kNorm tau 1 nx69_1 k)) (fun x0 x1 x2 => k (Ex.exit 0) (fillS nx69_1 N69 [.ow 5 545 [] 0 x0 none] [(0, .dead), (545, .vec false 5 x1 x2)])) v0 v1 v2 v3 v4 := by kernel_rfl
theorem lpE69_1 (f : Nat) (k : Kont) : ∀ (n : Nat) (v0 : Nat) (v1 : Int) (v2 : Int) (v3 : Bool) (v4 : List PV), evLoop tau 1 nm69_1 (fun s k => ev tau F69 1 0 c69_1 (x69_1 ) s k) n (fillS nm69_1 N69 [.ow 5 545 [] 0 v0 none, .sc (.int .u64 v1), .sc (.int .i64 v2)] [(0, .dead), (545, .vec false 5 v3 v4)]) (kNorm tau 1 nx69_1 k) = lp69_1 f (fun x0 x1 x2 => k (Ex.exit 0) (fillS nx69_1 N69 [.ow 5 545 [] 0 x0 none] [(0, .dead), (545, .vec false 5 x1 x2)])) n v0 v1 v2 v3 v4 | 0, _, _, _, _, _ => rfl | n + 1, v0, v1, v2, v3, v4 => (lpR69_1 f k n v0 v1 v2 v3 v4).trans (congrArg (fun r => lpS69_1 f r (fun x0 x1 x2 => k (Ex.exit 0) (fillS nx69_1 N69 [.ow 5 545 [] 0 x0 none] [(0, .dead), (545, .vec false 5 x1 x2)])) v0 v1 v2 v3 v4) (by funext v0 v1 v2 v3 v4; exact lpE69_1 f k n v0 v1 v2 v3 v4))
noncomputable def r69_1 (f : Nat) : List PV → List (Nat × Ent) → Kont → Option Res
  | [.ow 5 545 [] 0 v0 none, .sc (.int .u64 v1),
  PV.sc
    (Value.int IntKind.i64
      v2)], [(0, .dead),
  (545, .vec false 5 v3 v4)], k => lp69_1 f (fun x0 x1 x2 => k (Ex.exit 0) (fillS nx69_1 N69 [.ow 5 545 [] 0 x0 none] [(0, .dead), (545, .vec false 5 x1 x2)])) f v0 v1 v2 v3 v4
  | _, _, _ => none
theorem it69_1 (f : Nat) : items c69_1 x69_1 = [] := by kernel_rfl
theorem i69_1 (f : Nat) : (Item.l c69_1 nm69_1 N69 (r69_1 f)).Ok tau Try.prog 1 := loop_item tabOk F69_ok mixed (x := x69_1) (nm2 := nx69_1) (anOk_items _ _ (by rw [it69_1 f]; intro q hq; cases hq)) fun vs hp k res hr => by
  unfold r69_1 at hr
  split at hr
  · exact ⟨f, 0, (lpE69_1 f _ f _ _ _ _ _ ).trans hr⟩
  · cases hr
noncomputable def lpS69_0 (f : Nat) (rc : Nat → Int → Bool → List PV → Option Res) (k0 : Nat → Bool → List PV → Option Res) (v0 : Nat) (v1 : Int) (v2 : Bool) (v3 : List PV) : Option Res := bif (zi v0).tmod 64 != 56 then bif roomy (v0 + 1) 1 && true then rc (v0 + 1) v1 (v2 && false) (List.take v0 v3 ++ [.sc (.int .u8 0)]) else none else lp69_1 f (fun x0_0 x1_0 x2_0 => k0 x0_0 x1_0 x2_0) f v0 v1 (0) v2 v3
noncomputable def lp69_0 (f : Nat) (k0 : Nat → Bool → List PV → Option Res) : Nat → Nat → Int → Bool → List PV → Option Res
  | 0, _, _, _, _ => none
  | n + 1, v0, v1, v2, v3 => lpS69_0 f (lp69_0 f k0 n) k0 v0 v1 v2 v3
theorem lpR69_0 (f : Nat) (k : Kont) (n : Nat) (v0 : Nat) (v1 : Int) (v2 : Bool) (v3 : List PV) : evScope tau 1 nm69_0 (hasLabel c69_0) (fun l s k => evFrom tau F69 1 0 c69_0 (x69_0 (r69_1 f)) l s k) (n + 1) 0 (fillS nm69_0 N69 [.ow 5 545 [] 0 v0 none, .sc (.int .u64 v1)] [(0, .dead), (545, .vec false 5 v2 v3)]) (kNorm tau 1 nx69_0 k) = lpS69_0 f (fun v0 v1 v2 v3 => evScope tau 1 nm69_0 (hasLabel c69_0) (fun l s k => evFrom tau F69 1 0 c69_0 (x69_0 (r69_1 f)) l s k) n 0 (fillS nm69_0 N69 [.ow 5 545 [] 0 v0 none, .sc (.int .u64 v1)] [(0, .dead), (545, .vec false 5 v2 v3)]) (kNorm tau 1 nx69_0 k)) (fun x0 x1 x2 => k Ex.ret (fillS nx69_0 N69 [.ow 5 545 [] 0 x0 none] [(0, .dead), (545, .vec false 5 x1 x2)])) v0 v1 v2 v3 := by kernel_rfl
theorem lpE69_0 (f : Nat) (k : Kont) : ∀ (n : Nat) (v0 : Nat) (v1 : Int) (v2 : Bool) (v3 : List PV), evScope tau 1 nm69_0 (hasLabel c69_0) (fun l s k => evFrom tau F69 1 0 c69_0 (x69_0 (r69_1 f)) l s k) n 0 (fillS nm69_0 N69 [.ow 5 545 [] 0 v0 none, .sc (.int .u64 v1)] [(0, .dead), (545, .vec false 5 v2 v3)]) (kNorm tau 1 nx69_0 k) = lp69_0 f (fun x0 x1 x2 => k Ex.ret (fillS nx69_0 N69 [.ow 5 545 [] 0 x0 none] [(0, .dead), (545, .vec false 5 x1 x2)])) n v0 v1 v2 v3 | 0, _, _, _, _ => rfl | n + 1, v0, v1, v2, v3 => (lpR69_0 f k n v0 v1 v2 v3).trans (congrArg (fun r => lpS69_0 f r (fun x0 x1 x2 => k Ex.ret (fillS nx69_0 N69 [.ow 5 545 [] 0 x0 none] [(0, .dead), (545, .vec false 5 x1 x2)])) v0 v1 v2 v3) (by funext v0 v1 v2 v3; exact lpE69_0 f k n v0 v1 v2 v3))
noncomputable def r69_0 (f : Nat) : Nat → List PV → List (Nat × Ent) → Kont → Option Res
  | 0, [.ow 5 545 [] 0 v0 none,
  PV.sc
    (Value.int IntKind.u64
      v1)], [(0, .dead),
  (545, .vec false 5 v2 v3)], k => lp69_0 f (fun x0 x1 x2 => k Ex.ret (fillS nx69_0 N69 [.ow 5 545 [] 0 x0 none] [(0, .dead), (545, .vec false 5 x1 x2)])) f v0 v1 v2 v3
  | _, _, _, _ => none
theorem it69_0 (f : Nat) : items c69_0 (x69_0 (r69_1 f)) = [.l c69_1 nm69_1 N69 (r69_1 f)] := by kernel_rfl
theorem i69_0 (f : Nat) : (Item.s c69_0 nm69_0 N69 (r69_0 f)).Ok tau Try.prog 1 := scope_item tabOk F69_ok mixed (x := (x69_0 (r69_1 f))) (nm2 := nx69_0) (anOk_items _ _ (by rw [it69_0 f]; simp only [List.forall_mem_cons, List.not_mem_nil, false_implies, implies_true, and_true]; exact i69_1 f)) fun l vs hp k res hr => by
  unfold r69_0 at hr
  split at hr
  · exact ⟨f, 0, (lpE69_0 f _ f _ _ _ _ ).trans hr⟩
  · cases hr
noncomputable def g69 (f : Nat) (nl : Bool) (l : List PV) (n : Nat) (k : Res → Option Res) : Option Res := bif roomy (n + 1) 1 && true then bif (zi (n + 1)).tmod 64 != 56 then bif roomy (n + 1 + 1) 1 && true then lp69_0 f (fun x0_1 x1_1 x2_1 => k (Res.mk (.ow 5 16 [] 0 x0_1 none) [.dead] [.vec false 5 x1_1 x2_1])) f (n + 1 + 1) (IntKind.u64.wrap (IntKind.u64.wrap (zi n) * 8)) (nl && false && false) (List.take (n + 1) (List.take n l ++ [.sc (.int .u8 128)]) ++ [.sc (.int .u8 0)]) else none else lp69_1 f (fun x0_2 x1_2 x2_2 => k (Res.mk (.ow 5 16 [] 0 x0_2 none) [.dead] [.vec false 5 x1_2 x2_2])) f (n + 1) (IntKind.u64.wrap (IntKind.u64.wrap (zi n) * 8)) (0) (nl && false) (List.take n l ++ [.sc (.int .u8 128)]) else none
theorem e69 (f : Nat) (nl : Bool) (l : List PV) (n : Nat) (k : Res → Option Res) : evFn tau F69 Try.f69 (Try.f69.body.get!) (an69 (r69_0 f) (r69_1 f)) [] 0 [.ow 5 0 [] 0 n none] [.vec false 5 nl l] k = g69 f nl l n k := by kernel_rfl
theorem it69 (f : Nat) : items (Try.f69.body.get!) (an69 (r69_0 f) (r69_1 f)) = [.s c69_0 nm69_0 N69 (r69_0 f), .l c69_1 nm69_1 N69 (r69_1 f)] := by kernel_rfl
theorem ia69 (f : Nat) : ∀ q ∈ items (Try.f69.body.get!) (an69 (r69_0 f) (r69_1 f)), q.Ok tau Try.prog 1 := by
  rw [it69 f]; simp only [List.forall_mem_cons, List.not_mem_nil, false_implies, implies_true, and_true]; exact ⟨i69_0 f, i69_1 f⟩
theorem fo69 : Try.prog.funcs[69]? = some Try.f69 := by kernel_rfl
theorem bo69 : Try.f69.body = some (Try.f69.body.get!) := by kernel_rfl
theorem en69 : Enters Try.prog 69 := enters_of fo69 (by kernel_rfl) bo69
end Go.Proofs.Ytcklhipdldpkhaa.Rx

-- FN sha.padded
namespace Go.Proofs.Ytcklhipdldpkhaa.Rx
open Go
set_option linter.unusedVariables false
set_option maxRecDepth 100000
set_option maxHeartbeats 1000000
def lenG (n : Int) (i : Nat) : Int := IntKind.u8.wrap (shrI .u64 n (56 - 8 * (i : Int)))
theorem l69_1 (f : Nat) (N : Int) (k0 : Nat → Bool → List PV → Option Res) (L : List Int) (hL : L.length ≤ 140737488355300) : ∀ (d i n : Nat) (z : Bool), i + d = 8 → d < n → (d = 0 → z = false) →
    lp69_1 f k0 n (L.length + i) N (i : Int) z (pu .u8 (L ++ (List.range i).map (lenG N))) = k0 (L.length + 8) false (pu .u8 (L ++ (List.range 8).map (lenG N)))
  | 0, i, n + 1, z, h, hn, hz => by
      obtain rfl : i = 8 := by omega
      simp only [lp69_1, lpS69_1]
      rw [hz rfl]
      exact bif_f (by decide)
  | d + 1, i, n + 1, z, h, hn, hz => by
      have h1 : IntKind.i64.wrap ((i : Int) + 1) = ((i + 1 : Nat) : Int) := by rw [wrap_i64 (by omega) (by omega)]; omega
      have h8 : IntKind.i64.wrap (8 * (i : Int)) = 8 * (i : Int) := wrap_i64 (by omega) (by omega)
      have h9 : IntKind.i64.wrap (56 - 8 * (i : Int)) = 56 - 8 * (i : Int) := wrap_i64 (by omega) (by omega)
      have c1 : decide ((i : Int) < 8) = true := by simp; omega
      have c2 : decide (0 ≤ 56 - 8 * (i : Int)) = true := by simp; omega
      have c3 : roomy (L.length + i + 1) 1 = true := by simp [roomy]; omega
      have hlen : (L ++ (List.range i).map (lenG N)).length = L.length + i := by simp
      simp only [lp69_1, lpS69_1, h1, h8, h9, c1, c2, c3, Bool.and_true, cond_true, pu_take, Bool.and_false]
      rw [List.take_of_length_le (by omega)]
      have := l69_1 f N k0 L hL d (i + 1) n false (by omega) (by omega) (fun _ => rfl)
      rw [List.range_succ, List.map_append, ← List.append_assoc, pu_append] at this
      exact this
theorem l69_0 (f : Nat) (N : Int) (k0 : Nat → Bool → List PV → Option Res) (hf : 9 ≤ f) : ∀ (d n : Nat) (L : List Int) (z : Bool), zs L.length = d → d < n → L.length + d ≤ 140737488355200 →
    lp69_0 f k0 n L.length N z (pu .u8 L) = lp69_1 f k0 f (L.length + d) N 0 (z && decide (d = 0)) (pu .u8 (L ++ List.replicate d 0))
  | 0, n + 1, L, z, hd, hn, hL => by
      simp only [lp69_0, lpS69_0, tmod64]
      refine (bif_f (by simp [zs] at hd ⊢; omega)).trans ?_
      simp
  | d + 1, n + 1, L, z, hd, hn, hL => by
      have hlt : d + 1 < 64 := by rw [← hd]; unfold zs; omega
      have c3 : roomy (L.length + 1) 1 = true := by simp [roomy]; omega
      simp only [lp69_0, lpS69_0, tmod64, c3, Bool.and_true, cond_true, pu_take, Bool.and_false]
      refine (bif_t (by simp [zs] at hd ⊢; omega)).trans ?_
      rw [List.take_of_length_le (Nat.le_refl _)]
      have := l69_0 f N k0 hf d n (L ++ [0]) false (by simp [zs] at hd ⊢; omega) (by omega) (by simp; omega)
      simp only [List.length_append, List.length_cons, List.length_nil, Nat.zero_add, pu_append] at this
      refine this.trans ?_
      rw [show L.length + 1 + d = L.length + (d + 1) from by omega, List.replicate_succ]
      simp
theorem g69_eq (nl : Bool) (bs : List Int) (hb : bs.length ≤ 140737488355000) (k : Res → Option Res) : g69 100 nl (pu .u8 bs) bs.length k = k ⟨.ow 5 16 [] 0 (padP bs).length none, [.dead], [.vec false 5 false (pu .u8 (padP bs))]⟩ := by
  have c1 : (roomy (bs.length + 1) 1 && true) = true := by simp [roomy]; omega
  have c2 : (roomy (bs.length + 1 + 1) 1 && true) = true := by simp [roomy]; omega
  have hlen : (padP bs).length = bs.length + 1 + zs (bs.length + 1) + 8 := by simp [padP, lenB]; omega
  have hz : zs (bs.length + 1) < 64 := by unfold zs; omega
  refine (bif_t c1).trans ?_
  rw [tmod64, pu_take, List.take_of_length_le (Nat.le_refl _)]
  have fin : ∀ z, lp69_1 100 (fun x0_2 x1_2 x2_2 => k (Res.mk (PV.ow 5 16 [] 0 x0_2 none) [Ent.dead] [Ent.vec false 5 x1_2 x2_2])) 100 (bs.length + 1 + zs (bs.length + 1)) (IntKind.u64.wrap (IntKind.u64.wrap (zi bs.length) * 8)) 0 z (pu .u8 (bs ++ [128] ++ List.replicate (zs (bs.length + 1)) 0)) = k ⟨.ow 5 16 [] 0 (padP bs).length none, [.dead], [.vec false 5 false (pu .u8 (padP bs))]⟩ := by
    intro z
    have := l69_1 100 (IntKind.u64.wrap (IntKind.u64.wrap (zi bs.length) * 8)) (fun x0_2 x1_2 x2_2 => k (Res.mk (PV.ow 5 16 [] 0 x0_2 none) [Ent.dead] [Ent.vec false 5 x1_2 x2_2])) (bs ++ [128] ++ List.replicate (zs (bs.length + 1)) 0) (by simp; omega) 8 0 100 z (by omega) (by omega) (by omega)
    have hl2 : (bs ++ [128] ++ List.replicate (zs (bs.length + 1)) 0).length = bs.length + 1 + zs (bs.length + 1) := by simp; omega
    rw [hl2] at this
    simp only [List.range_zero, List.map_nil, List.append_nil, Nat.add_zero] at this
    rw [hlen]
    exact this
  cases hc : (((((bs.length + 1) % 64 : Nat) : Int)) != 56) with
  | true =>
    refine (bif_t rfl).trans ((bif_t c2).trans ?_)
    have hc' : ((bs.length + 1) % 64 : Nat) ≠ 56 := by simp at hc; omega
    have hz1 : zs (bs.length + 1 + 1) + 1 = zs (bs.length + 1) := by unfold zs; omega
    have := l69_0 100 (IntKind.u64.wrap (IntKind.u64.wrap (zi bs.length) * 8)) (fun x0_1 x1_1 x2_1 => k (Res.mk (PV.ow 5 16 [] 0 x0_1 none) [Ent.dead] [Ent.vec false 5 x1_1 x2_1])) (by omega) (zs (bs.length + 1 + 1)) 100 (bs ++ [128] ++ [0]) (nl && false && false) (by simp) (by unfold zs; omega) (by simp; omega)
    have h0 : pu .u8 (bs ++ [128] ++ [0]) = List.take (bs.length + 1) (pu .u8 bs ++ [PV.sc (Value.int IntKind.u8 128)]) ++ [PV.sc (Value.int IntKind.u8 0)] := by
      rw [List.take_of_length_le (by simp)]; simp
    rw [h0] at this
    simp only [List.length_append, List.length_cons, List.length_nil, Nat.zero_add] at this
    refine this.trans ?_
    have h3 : bs ++ [128] ++ [0] ++ List.replicate (zs (bs.length + 1 + 1)) 0 = bs ++ [128] ++ List.replicate (zs (bs.length + 1)) 0 := by
      rw [← hz1, List.replicate_succ]; simp
    rw [h3, show bs.length + 1 + 1 + zs (bs.length + 1 + 1) = bs.length + 1 + zs (bs.length + 1) from by omega]
    exact fin _
  | false =>
    refine (bif_f rfl).trans ?_
    have hc' : ((bs.length + 1) % 64 : Nat) = 56 := by simp at hc; omega
    have hz0 : zs (bs.length + 1) = 0 := by unfold zs; omega
    have := fin (nl && false)
    rw [hz0] at this
    simpa using this
def run69' : List PV → List Ent → (Res → Option Res) → Option Res
  | [.ow 5 0 [] 0 n none], [.vec false 5 nl l], k => bif allInt .u8 l && (decide (n = l.length) && decide (l.length ≤ 140737488355000)) then k ⟨.ow 5 16 [] 0 (padP (ints l)).length none, [.dead], [.vec false 5 false (pu .u8 (padP (ints l)))]⟩ else none
  | _, _, _ => none
def s69' : Sig := { own := [true], run := run69' }
theorem ok69' : CallOk tau Try.prog 69 s69' := fn_ok tabOk F69_ok mixed fo69 bo69 _ [] 1 [true] run69' (ia69 100) fun xs es k res hr => by
  unfold run69' at hr
  split at hr
  · obtain ⟨hc, hr⟩ := of_bif hr
    simp only [Bool.and_eq_true, decide_eq_true_eq] at hc
    refine ⟨rfl, 0, (e69 100 _ _ _ _).trans ?_⟩
    rw [hc.2.1, pu_ints hc.1, pu_length, g69_eq _ _ (by simpa using hc.2.2)]
    exact hr
  · cases hr
end Go.Proofs.Ytcklhipdldpkhaa.Rx

namespace Go.Proofs.Ytcklhipdldpkhaa.Rx
open Go
set_option linter.unusedVariables false
set_option maxRecDepth 100000
set_option maxHeartbeats 0
noncomputable def F68 : Fns := F0
theorem F68_ok : FnsOk tau Try.prog F68 := F0_ok
def an68 : An := (.seq .leaf (.seq .leaf .leaf))
noncomputable def g68 (f : Nat) (k : Res → Option Res) : Option Res := k (Res.mk (.ar 113 [.sc (.int .u32 1779033703), .sc (.int .u32 3144134277), .sc (.int .u32 1013904242), .sc (.int .u32 2773480762), .sc (.int .u32 1359893119), .sc (.int .u32 2600822924), .sc (.int .u32 528734635), .sc (.int .u32 1541459225)]) [] [])
theorem e68 (f : Nat) (k : Res → Option Res) : evFn tau F68 Try.f68 (Try.f68.body.get!) an68 [.ro] 0 [] [] k = g68 f k := by kernel_rfl
theorem it68 (f : Nat) : items (Try.f68.body.get!) an68 = [] := by kernel_rfl
theorem ia68 (f : Nat) : ∀ q ∈ items (Try.f68.body.get!) an68, q.Ok tau Try.prog 0 := by
  rw [it68 f]; intro q hq; cases hq
theorem fo68 : Try.prog.funcs[68]? = some Try.f68 := by kernel_rfl
theorem bo68 : Try.f68.body = some (Try.f68.body.get!) := by kernel_rfl
theorem en68 : Enters Try.prog 68 := enters_of fo68 (by kernel_rfl) bo68
noncomputable def run68 : List PV → List Ent → (Res → Option Res) → Option Res
  | [], [], k => g68 0  k
  | _, _, _ => none
noncomputable def s68 : Sig := { own := [], run := run68 }
theorem ok68 : CallOk tau Try.prog 68 s68 := fn_ok tabOk F68_ok mixed fo68 bo68 an68 [.ro] 0 [] run68 (ia68 0) fun xs es k res hr => by
  unfold run68 at hr
  split at hr
  · exact ⟨rfl, 0, (e68 0  _).trans hr⟩
  · cases hr
end Go.Proofs.Ytcklhipdldpkhaa.Rx

namespace Go.Proofs.Ytcklhipdldpkhaa.Rx
open Go
set_option linter.unusedVariables false
set_option maxRecDepth 100000
set_option maxHeartbeats 0
def N27 : Nat := 37
noncomputable def F27 : Fns := addF 68 s68 (addF 69 s69' (addF 70 s70' (addF 71 s71' F0)))
theorem F27_ok : FnsOk tau Try.prog F27 := (((F0_ok.add ok71' en71).add ok70' en70).add ok69' en69).add ok68 en68
noncomputable def c27_0 : Code := subC (Try.f27.body.get!) [1, 1, 0, 1, 0, 0]
def nm27_0 : Nm := [(2, .any), (3, .any), (4, .ro)]
def nx27_0 : Nm := [(2, .any), (3, .any)]
def x27_0 : An := (.seq (.seq .leaf (.cond .leaf .leaf)) (.seq (.block none .leaf) .leaf))
noncomputable def c27_1 : Code := subC (Try.f27.body.get!) [1, 1, 1, 1, 0, 1, 0, 0]
def nm27_1 : Nm := [(2, .any), (3, .any), (5, .any), (20, .any)]
def nx27_1 : Nm := [(2, .any), (5, .any)]
def x27_1 : An := (.seq .leaf (.seq (.cond .leaf .leaf) (.seq (.block none (.seq .leaf .leaf)) .leaf)))
def an27 (r0 : RunL) (r1 : RunL) : An := (.seq .leaf (.seq .leaf (.seq (.seq .leaf (.block none (.sum nm27_0 N27 r0))) (.seq .leaf (.seq (.seq .leaf (.block none (.sum nm27_1 N27 r1))) (.seq .leaf .leaf))))))
def lpS27_0 (f : Nat) (rc : List PV → List PV → List PV → Option Res) (k0 : List PV → List PV → Option Res) (v0 : List PV) (v1 : List PV) (v2 : List PV) : Option Res := bif decide (zi v0.length > 0) then bif decide (64 ≤ v0.length) && true then bif allInt IntKind.u32 v2 && decide (v2.length = 8) && (allInt IntKind.u8 (List.take 64 v0) && decide ((List.take 64 v0).length = 64)) then bif decide (64 ≤ v0.length) && decide (v0.length ≤ v0.length) && true then rc (List.drop 64 (List.take v0.length v0)) v1 (pu IntKind.u32 (addP (ints v2) (ints (List.take 64 v0)))) else none else none else none else k0 v1 v2
def lp27_0 (f : Nat) (k0 : List PV → List PV → Option Res) : Nat → List PV → List PV → List PV → Option Res
  | 0, _, _, _ => none
  | n + 1, v0, v1, v2 => lpS27_0 f (lp27_0 f k0 n) k0 v0 v1 v2
theorem lpR27_0 (f : Nat) (k : Kont) (n : Nat) (v0 : List PV) (v1 : List PV) (v2 : List PV) : evLoop tau 0 nm27_0 (fun s k => ev tau F27 0 0 c27_0 (x27_0 ) s k) (n + 1) (fillS nm27_0 N27 [.ptr 608 [], .ptr 609 [], .ro 5 false false v0] [(608, .box false 37 (PV.ar 37 v1)), (609, .box false 113 (PV.ar 113 v2))]) (kNorm tau 0 nx27_0 k) = lpS27_0 f (fun v0 v1 v2 => evLoop tau 0 nm27_0 (fun s k => ev tau F27 0 0 c27_0 (x27_0 ) s k) n (fillS nm27_0 N27 [.ptr 608 [], .ptr 609 [], .ro 5 false false v0] [(608, .box false 37 (PV.ar 37 v1)), (609, .box false 113 (PV.ar 113 v2))]) (kNorm tau 0 nx27_0 k)) (fun x0 x1 => k (Ex.exit 0) (fillS nx27_0 N27 [.ptr 608 [], .ptr 609 []] [(608, .box false 37 (PV.ar 37 x0)), (609, .box false 113 (PV.ar 113 x1))])) v0 v1 v2 := by kernel_rfl
theorem lpE27_0 (f : Nat) (k : Kont) : ∀ (n : Nat) (v0 : List PV) (v1 : List PV) (v2 : List PV), evLoop tau 0 nm27_0 (fun s k => ev tau F27 0 0 c27_0 (x27_0 ) s k) n (fillS nm27_0 N27 [.ptr 608 [], .ptr 609 [], .ro 5 false false v0] [(608, .box false 37 (PV.ar 37 v1)), (609, .box false 113 (PV.ar 113 v2))]) (kNorm tau 0 nx27_0 k) = lp27_0 f (fun x0 x1 => k (Ex.exit 0) (fillS nx27_0 N27 [.ptr 608 [], .ptr 609 []] [(608, .box false 37 (PV.ar 37 x0)), (609, .box false 113 (PV.ar 113 x1))])) n v0 v1 v2 | 0, _, _, _ => rfl | n + 1, v0, v1, v2 => (lpR27_0 f k n v0 v1 v2).trans (congrArg (fun r => lpS27_0 f r (fun x0 x1 => k (Ex.exit 0) (fillS nx27_0 N27 [.ptr 608 [], .ptr 609 []] [(608, .box false 37 (PV.ar 37 x0)), (609, .box false 113 (PV.ar 113 x1))])) v0 v1 v2) (by funext v0 v1 v2; exact lpE27_0 f k n v0 v1 v2))
def r27_0 (f : Nat) : List PV → List (Nat × Ent) → Kont → Option Res
  | [.ptr 608 [], .ptr 609 [],
  PV.ro 5 false false
    v0], [(608, .box false 37 (PV.ar 37 v1)),
  (609,
    Ent.box false 113
      (PV.ar 113
        v2))], k => lp27_0 f (fun x0 x1 => k (Ex.exit 0) (fillS nx27_0 N27 [.ptr 608 [], .ptr 609 []] [(608, .box false 37 (PV.ar 37 x0)), (609, .box false 113 (PV.ar 113 x1))])) f v0 v1 v2
  | _, _, _ => none
theorem it27_0 (f : Nat) : items c27_0 x27_0 = [] := by kernel_rfl
theorem i20_0 (f : Nat) : (Item.l c27_0 nm27_0 N27 (r27_0 f)).Ok tau Try.prog 0 := loop_item tabOk F27_ok mixed (x := x27_0) (nm2 := nx27_0) (anOk_items _ _ (by rw [it27_0 f]; intro q hq; cases hq)) fun vs hp k res hr => by
  unfold r27_0 at hr
  split at hr
  · exact ⟨f, 0, (lpE27_0 f _ f _ _ _ ).trans hr⟩
  · cases hr
def lpS27_1 (f : Nat) (rc : Int → List PV → List PV → List PV → Option Res) (k0 : List PV → List PV → Option Res) (v0 : Int) (v1 : List PV) (v2 : List PV) (v3 : List PV) : Option Res := bif decide (v0 < 32) then bif decide (0 ≤ IntKind.i64.wrap (v0.tdiv 4)) && decide (IntKind.i64.wrap (v0.tdiv 4) < zi 8) && true then bif PV.isInt IntKind.u32 (getP (PV.ar 113 v2) [(IntKind.i64.wrap (v0.tdiv 4)).toNat]) && true then bif decide (0 ≤ IntKind.i64.wrap (24 - IntKind.i64.wrap (8 * v0.tmod 4))) && true then bif decide (0 ≤ v0) && decide (v0 < zi 32) && true then rc (IntKind.i64.wrap (v0 + 1)) v1 v2 (v3.set v0.toNat (.sc (.int .u8 (IntKind.u8.wrap (shrI IntKind.u32 (getP (PV.ar 113 v2) [(IntKind.i64.wrap (v0.tdiv 4)).toNat]).int (IntKind.i64.wrap (24 - IntKind.i64.wrap (8 * v0.tmod 4)))))))) else none else none else none else none else k0 v1 v3
def lp27_1 (f : Nat) (k0 : List PV → List PV → Option Res) : Nat → Int → List PV → List PV → List PV → Option Res
  | 0, _, _, _, _ => none
  | n + 1, v0, v1, v2, v3 => lpS27_1 f (lp27_1 f k0 n) k0 v0 v1 v2 v3
theorem lpR27_1 (f : Nat) (k : Kont) (n : Nat) (v0 : Int) (v1 : List PV) (v2 : List PV) (v3 : List PV) : evLoop tau 0 nm27_1 (fun s k => ev tau F27 0 0 c27_1 (x27_1 ) s k) (n + 1) (fillS nm27_1 N27 [.ptr 608 [], .ptr 609 [], .ptr 610 [], .sc (.int .i64 v0)] [(608, .box false 37 (PV.ar 37 v1)), (609, .box false 113 (PV.ar 113 v2)), (610, .box false 37 (PV.ar 37 v3))]) (kNorm tau 0 nx27_1 k) = lpS27_1 f (fun v0 v1 v2 v3 => evLoop tau 0 nm27_1 (fun s k => ev tau F27 0 0 c27_1 (x27_1 ) s k) n (fillS nm27_1 N27 [.ptr 608 [], .ptr 609 [], .ptr 610 [], .sc (.int .i64 v0)] [(608, .box false 37 (PV.ar 37 v1)), (609, .box false 113 (PV.ar 113 v2)), (610, .box false 37 (PV.ar 37 v3))]) (kNorm tau 0 nx27_1 k)) (fun x0 x1 => k (Ex.exit 2) (fillS nx27_1 N27 [.ptr 608 [], .ptr 609 []] [(608, .box false 37 (PV.ar 37 x0)), (609, .box false 37 (PV.ar 37 x1))])) v0 v1 v2 v3 := by kernel_rfl
theorem lpE27_1 (f : Nat) (k : Kont) : ∀ (n : Nat) (v0 : Int) (v1 : List PV) (v2 : List PV) (v3 : List PV), evLoop tau 0 nm27_1 (fun s k => ev tau F27 0 0 c27_1 (x27_1 ) s k) n (fillS nm27_1 N27 [.ptr 608 [], .ptr 609 [], .ptr 610 [], .sc (.int .i64 v0)] [(608, .box false 37 (PV.ar 37 v1)), (609, .box false 113 (PV.ar 113 v2)), (610, .box false 37 (PV.ar 37 v3))]) (kNorm tau 0 nx27_1 k) = lp27_1 f (fun x0 x1 => k (Ex.exit 2) (fillS nx27_1 N27 [.ptr 608 [], .ptr 609 []] [(608, .box false 37 (PV.ar 37 x0)), (609, .box false 37 (PV.ar 37 x1))])) n v0 v1 v2 v3 | 0, _, _, _, _ => rfl | n + 1, v0, v1, v2, v3 => (lpR27_1 f k n v0 v1 v2 v3).trans (congrArg (fun r => lpS27_1 f r (fun x0 x1 => k (Ex.exit 2) (fillS nx27_1 N27 [.ptr 608 [], .ptr 609 []] [(608, .box false 37 (PV.ar 37 x0)), (609, .box false 37 (PV.ar 37 x1))])) v0 v1 v2 v3) (by funext v0 v1 v2 v3; exact lpE27_1 f k n v0 v1 v2 v3))
def r27_1 (f : Nat) : List PV → List (Nat × Ent) → Kont → Option Res
  | [.ptr 608 [], .ptr 609 [], .ptr 610 [],
  PV.sc
    (Value.int IntKind.i64
      v0)], [(608, .box false 37 (PV.ar 37 v1)), (609, .box false 113 (PV.ar 113 v2)),
  (610,
    Ent.box false 37
      (PV.ar 37
        v3))], k => lp27_1 f (fun x0 x1 => k (Ex.exit 2) (fillS nx27_1 N27 [.ptr 608 [], .ptr 609 []] [(608, .box false 37 (PV.ar 37 x0)), (609, .box false 37 (PV.ar 37 x1))])) f v0 v1 v2 v3
  | _, _, _ => none
theorem it27_1 (f : Nat) : items c27_1 x27_1 = [] := by kernel_rfl
theorem i20_1 (f : Nat) : (Item.l c27_1 nm27_1 N27 (r27_1 f)).Ok tau Try.prog 0 := loop_item tabOk F27_ok mixed (x := x27_1) (nm2 := nx27_1) (anOk_items _ _ (by rw [it27_1 f]; intro q hq; cases hq)) fun vs hp k res hr => by
  unfold r27_1 at hr
  split at hr
  · exact ⟨f, 0, (lpE27_1 f _ f _ _ _ _ ).trans hr⟩
  · cases hr
def g27 (f : Nat) (nl : Bool) (fl : Bool) (l : List PV) (k : Res → Option Res) : Option Res := bif l.all (PV.isRo 5) && (decide ((flat l).length ≤ 140737488355328) && decide (l.length ≤ 140737488355328)) then bif allInt IntKind.u8 (flat l) && (decide ((flat l).length = (flat l).length) && decide ((flat l).length ≤ 140737488355000)) then lp27_0 f (fun x0_0 x1_0 => lp27_1 f (fun x0_1 x1_1 => k (Res.mk (.ar 37 x1_1) [] [])) f (0) x0_0 x1_0 ([.sc (.int .u8 0), .sc (.int .u8 0), .sc (.int .u8 0), .sc (.int .u8 0), .sc (.int .u8 0), .sc (.int .u8 0), .sc (.int .u8 0), .sc (.int .u8 0), .sc (.int .u8 0), .sc (.int .u8 0), .sc (.int .u8 0), .sc (.int .u8 0), .sc (.int .u8 0), .sc (.int .u8 0), .sc (.int .u8 0), .sc (.int .u8 0), .sc (.int .u8 0), .sc (.int .u8 0), .sc (.int .u8 0), .sc (.int .u8 0), .sc (.int .u8 0), .sc (.int .u8 0), .sc (.int .u8 0), .sc (.int .u8 0), .sc (.int .u8 0), .sc (.int .u8 0), .sc (.int .u8 0), .sc (.int .u8 0), .sc (.int .u8 0), .sc (.int .u8 0), .sc (.int .u8 0), .sc (.int .u8 0)])) f (List.take (padP (ints (flat l))).length (pu IntKind.u8 (padP (ints (flat l))))) ([.sc (.int .u8 0), .sc (.int .u8 0), .sc (.int .u8 0), .sc (.int .u8 0), .sc (.int .u8 0), .sc (.int .u8 0), .sc (.int .u8 0), .sc (.int .u8 0), .sc (.int .u8 0), .sc (.int .u8 0), .sc (.int .u8 0), .sc (.int .u8 0), .sc (.int .u8 0), .sc (.int .u8 0), .sc (.int .u8 0), .sc (.int .u8 0), .sc (.int .u8 0), .sc (.int .u8 0), .sc (.int .u8 0), .sc (.int .u8 0), .sc (.int .u8 0), .sc (.int .u8 0), .sc (.int .u8 0), .sc (.int .u8 0), .sc (.int .u8 0), .sc (.int .u8 0), .sc (.int .u8 0), .sc (.int .u8 0), .sc (.int .u8 0), .sc (.int .u8 0), .sc (.int .u8 0), .sc (.int .u8 0)]) ([.sc (.int .u32 1779033703), .sc (.int .u32 3144134277), .sc (.int .u32 1013904242), .sc (.int .u32 2773480762), .sc (.int .u32 1359893119), .sc (.int .u32 2600822924), .sc (.int .u32 528734635), .sc (.int .u32 1541459225)]) else none else none
theorem e27 (f : Nat) (nl : Bool) (fl : Bool) (l : List PV) (k : Res → Option Res) : evFn tau F27 Try.f27 (Try.f27.body.get!) (an27 (r27_0 f) (r27_1 f)) [] 0 [.ro 29 nl fl l] [] k = g27 f nl fl l k := by kernel_rfl
theorem it27 (f : Nat) : items (Try.f27.body.get!) (an27 (r27_0 f) (r27_1 f)) = [.l c27_0 nm27_0 N27 (r27_0 f), .l c27_1 nm27_1 N27 (r27_1 f)] := by kernel_rfl
theorem ia27 (f : Nat) : ∀ q ∈ items (Try.f27.body.get!) (an27 (r27_0 f) (r27_1 f)), q.Ok tau Try.prog 0 := by
  rw [it27 f]; simp only [List.forall_mem_cons, List.not_mem_nil, false_implies, implies_true, and_true]; exact ⟨i20_0 f, i20_1 f⟩
theorem fo27 : Try.prog.funcs[27]? = some Try.f27 := by kernel_rfl
theorem bo27 : Try.f27.body = some (Try.f27.body.get!) := by kernel_rfl
theorem en27 : Enters Try.prog 27 := enters_of fo27 (by kernel_rfl) bo27
end Go.Proofs.Ytcklhipdldpkhaa.Rx

-- FN sha.Sum
namespace Go.Proofs.Ytcklhipdldpkhaa.Rx
open Go
set_option linter.unusedVariables false
set_option maxRecDepth 100000
set_option maxHeartbeats 1000000
theorem iv_length : iv.length = 8 := rfl
theorem l27_0 (P : List Int) (m : Nat) (hP : P.length = 64 * m) (f : Nat) (k0 : List PV → List PV → Option Res) (a : List PV) : ∀ (d i n : Nat), i + d = m → d < n →
    lp27_0 f k0 n (pu .u8 (P.drop (64 * i))) a (pu .u32 (foldB iv P i)) = k0 a (pu .u32 (foldB iv P m))
  | 0, i, n + 1, h, hn => by
      obtain rfl : i = m := by omega
      have hl : (P.drop (64 * i)).length = 0 := by rw [List.length_drop]; omega
      simp only [lp27_0, lpS27_0, pu_length, hl]
      exact bif_f (by decide)
  | d + 1, i, n + 1, h, hn => by
      have hl : 64 ≤ (P.drop (64 * i)).length := by rw [List.length_drop]; omega
      have hf := foldB_length iv P iv_length i
      simp only [lp27_0, lpS27_0, pu_length, pu_take, allInt_pu, hf, ints_pu]
      refine (bif_t (by simp; omega)).trans ?_
      refine (bif_t (by simp at hl ⊢; omega)).trans ?_
      refine (bif_t (by simp at hl ⊢; omega)).trans ?_
      refine (bif_t (by simp at hl ⊢; omega)).trans ?_
      rw [List.take_of_length_le (Nat.le_refl _), pu_drop, List.drop_drop]
      have := l27_0 P m hP f k0 a d (i + 1) n (by omega) (by omega)
      rw [show 64 * i + 64 = 64 * (i + 1) from by omega]
      exact this
theorem l27_1 (s : List Int) (hs : s.length = 8) (f : Nat) (k0 : List PV → List PV → Option Res) (a : List PV) (t : List Int) (ht : t.length = 32) : ∀ (d i n : Nat), i + d = 32 → d < n →
    lp27_1 f k0 n (i : Int) a (pu .u32 s) (pu .u8 (fillM (outB s) t i)) = k0 a (pu .u8 (outP s))
  | 0, i, n + 1, h, hn => by
      obtain rfl : i = 32 := by omega
      simp only [lp27_1, lpS27_1]
      refine (bif_f (by decide)).trans ?_
      have := fillM_full (outB s) t
      rw [ht] at this; rw [this]; rfl
  | d + 1, i, n + 1, h, hn => by
      have e1 : ((i : Int)).tdiv 4 = ((i / 4 : Nat) : Int) := by rw [Int.tdiv_eq_ediv_of_nonneg (by omega)]; omega
      have e2 : ((i : Int)).tmod 4 = ((i % 4 : Nat) : Int) := by rw [Int.tmod_eq_emod_of_nonneg (by omega)]; omega
      have h1 : IntKind.i64.wrap ((i : Int) + 1) = ((i + 1 : Nat) : Int) := by rw [wrap_i64 (by omega) (by omega)]; omega
      have h2 : IntKind.i64.wrap ((i / 4 : Nat) : Int) = ((i / 4 : Nat) : Int) := wrap_i64 (by omega) (by omega)
      have h3 : IntKind.i64.wrap (8 * ((i % 4 : Nat) : Int)) = 8 * ((i % 4 : Nat) : Int) := wrap_i64 (by omega) (by omega)
      have h4 : IntKind.i64.wrap (24 - 8 * ((i % 4 : Nat) : Int)) = 24 - 8 * ((i % 4 : Nat) : Int) := wrap_i64 (by omega) (by omega)
      have g1 : ((i : Int)).toNat = i := by omega
      have g2 : (((i / 4 : Nat) : Int)).toNat = i / 4 := by omega
      have c0 : decide ((i : Int) < 32) = true := by simp; omega
      have c1 : (decide (0 ≤ ((i / 4 : Nat) : Int)) && decide (((i / 4 : Nat) : Int) < zi 8) && true) = true := by simp; omega
      have c2 : (decide (0 ≤ 24 - 8 * ((i % 4 : Nat) : Int)) && true) = true := by simp; omega
      have c3 : (decide (0 ≤ (i : Int)) && decide ((i : Int) < zi 32) && true) = true := by simp; omega
      simp only [lp27_1, lpS27_1, e1, e2, h1, h2, h3, h4, g1, g2, getP_ar, c0, c1, c2, c3, getD8 hs (i / 4) (by omega), PV.isInt, PV.int, decide_true, Bool.and_true, cond_true, pu_set]
      have := l27_1 s hs f k0 a t ht d (i + 1) n (by omega) (by omega)
      rw [← fillM_set (outB s) t i (by omega)] at this
      exact this
theorem g27_eq (nl fl : Bool) (l : List PV) (k : Res → Option Res) (hl : l.all (PV.isRo 5) = true) (hn : l.length ≤ 140737488355328) (hi : allInt .u8 (flat l) = true) (hs : (flat l).length ≤ 140737488355000) :
    g27 ((padP (ints (flat l))).length / 64 + 100) nl fl l k = k ⟨.ar 37 (pu .u8 (sumP (ints (flat l)))), [], []⟩ := by
  refine (bif_t (by simp only [hl, Bool.true_and, Bool.and_eq_true, decide_eq_true_eq]; omega)).trans ?_
  refine (bif_t (by simp only [hi, Bool.true_and, Bool.and_eq_true, decide_eq_true_eq, true_and]; exact hs)).trans ?_
  rw [pu_take, List.take_of_length_le (Nat.le_refl _)]
  generalize hP : padP (ints (flat l)) = P
  have hlen : P.length = 64 * (P.length / 64) := by rw [← hP]; exact padP_length _
  have h0 : ∀ k0 a, lp27_0 (P.length / 64 + 100) k0 (P.length / 64 + 100) (pu .u8 P) a (pu .u32 iv) = k0 a (pu .u32 (foldB iv P (P.length / 64))) := fun k0 a => l27_0 P (P.length / 64) hlen _ k0 a (P.length / 64) 0 _ (by omega) (by omega)
  have h1 : ∀ k0 a s, s.length = 8 → lp27_1 (P.length / 64 + 100) k0 (P.length / 64 + 100) 0 a (pu .u32 s) (pu .u8 (List.replicate 32 0)) = k0 a (pu .u8 (outP s)) := by
    intro k0 a s hs
    have := l27_1 s hs (P.length / 64 + 100) k0 a (List.replicate 32 0) (by simp) 32 0 (P.length / 64 + 100) (by omega) (by omega)
    rw [fillM_zero] at this
    exact this
  refine (h0 _ _).trans ((h1 _ _ _ (foldB_length iv P iv_length _)).trans ?_)
  rw [sumP_eq, sumP0, hP]
def run27' : List PV → List Ent → (Res → Option Res) → Option Res
  | [.ro 29 nl fl l], [], k => bif (l.all (PV.isRo 5) && decide (l.length ≤ 140737488355328)) && (allInt .u8 (flat l) && decide ((flat l).length ≤ 140737488355000)) then k ⟨.ar 37 (pu .u8 (sumP (ints (flat l)))), [], []⟩ else none
  | _, _, _ => none
def s27' : Sig := { own := [], run := run27' }
theorem ok27' : CallOk tau Try.prog 27 s27' := fn_ok2 tabOk F27_ok mixed fo27 bo27 (fun n => an27 (r27_0 n) (r27_1 n)) [] 0 [] run27' (fun n => ia27 n) fun xs es k res hr => by
  unfold run27' at hr
  split at hr
  · rename_i nl fl l
    obtain ⟨hc, hr⟩ := of_bif hr
    simp only [Bool.and_eq_true, decide_eq_true_eq] at hc
    refine ⟨rfl, (padP (ints (flat l))).length / 64 + 100, 0, (e27 _ _ _ _ _).trans ?_⟩
    rw [g27_eq nl fl l k hc.1.1 hc.1.2 hc.2.1 hc.2.2]; exact hr
  · cases hr
end Go.Proofs.Ytcklhipdldpkhaa.Rx

namespace Go.Proofs.Ytcklhipdldpkhaa.Rx
open Go
set_option linter.unusedVariables false
set_option maxRecDepth 100000
set_option maxHeartbeats 0
noncomputable def F136 : Fns := F0
theorem F136_ok : FnsOk tau Try.prog F136 := F0_ok
def an136 : An := (.seq .leaf (.seq (.seq .leaf (.cond (.seq .leaf .leaf) .leaf)) (.seq .leaf .leaf)))
noncomputable def g136 (f : Nat) (s_z : Bool) (s_f : Bool) (s : List PV) (k : Res → Option Res) : Option Res := bif s_z then k (Res.mk (.ro 29 true true []) [] []) else bif roomy (0 + s.length) 24 && true then k (Res.mk (.ow 29 16 [] 0 (0 + s.length) none) [] [.vec false 29 false s]) else none
theorem e136 (f : Nat) (s_z : Bool) (s_f : Bool) (s : List PV) (k : Res → Option Res) : evFn tau F136 Try.f136 (Try.f136.body.get!) an136 [] 0 [.ro 29 s_z s_f s] [] k = g136 f s_z s_f s k := by kernel_rfl
theorem it136 (f : Nat) : items (Try.f136.body.get!) an136 = [] := by kernel_rfl
theorem ia136 (f : Nat) : ∀ q ∈ items (Try.f136.body.get!) an136, q.Ok tau Try.prog 0 := by
  rw [it136 f]; intro q hq; cases hq
theorem fo136 : Try.prog.funcs[136]? = some Try.f136 := by kernel_rfl
theorem bo136 : Try.f136.body = some (Try.f136.body.get!) := by kernel_rfl
theorem en136 : Enters Try.prog 136 := enters_of fo136 (by kernel_rfl) bo136
noncomputable def run136 : List PV → List Ent → (Res → Option Res) → Option Res
  | [.ro 29 s_z s_f s], [], k => g136 0 s_z s_f s k
  | _, _, _ => none
noncomputable def s136 : Sig := { own := [], run := run136 }
theorem ok136 : CallOk tau Try.prog 136 s136 := fn_ok tabOk F136_ok mixed fo136 bo136 an136 [] 0 [] run136 (ia136 0) fun xs es k res hr => by
  unfold run136 at hr
  split at hr
  · exact ⟨rfl, 0, (e136 0 _ _ _  _).trans hr⟩
  · cases hr
end Go.Proofs.Ytcklhipdldpkhaa.Rx

-- FN slices.overlaps[[]byte]
-- EXT slices.overlaps[[]byte]
namespace Go.Proofs.Ytcklhipdldpkhaa.Rx
open Go
set_option maxRecDepth 100000
noncomputable def s157' : Sig := { own := [true, true], run := ovRun 29 }
theorem ok157' : CallOkD tau (ValD Try.prog 157) s157' :=
  ov_ok (fn := Try.f157) (t := 47) (tR := 4) tabOk (by kernel_rfl) (by kernel_rfl) (by kernel_rfl) (by kernel_rfl) (by kernel_rfl) (by kernel_rfl) (by
    have h : tau.und 29 = some (.slice 5) := by kernel_rfl
    rw [h]; intro h; cases h)
end Go.Proofs.Ytcklhipdldpkhaa.Rx
