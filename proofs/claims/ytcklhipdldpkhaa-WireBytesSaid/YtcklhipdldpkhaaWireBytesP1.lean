/- What the functions of this law compute, and their plain laws. Conditions: none. -/
import Derived.Test.YtcklhipdldpkhaaProg
import Derived.Test.YtcklhipdldpkhaaWireBytesZ4
namespace Go.Proofs.Ytcklhipdldpkhaa.Rx
open Go
set_option linter.unusedVariables false
set_option maxRecDepth 100000
def tys : List TypeId := [1, 2, 3, 4, 5, 9, 12, 21, 22, 23, 24, 25, 26, 28, 29, 30, 31, 32, 33, 34, 35, 36, 37, 38, 39, 40, 41, 42, 43, 44, 45, 46, 47, 48, 49, 50, 51, 52, 53, 54, 55, 56, 57, 58, 59, 60, 62, 64, 65, 66, 67, 68, 69, 70, 71, 72, 73, 74, 75, 76, 77, 78, 79, 81, 82, 83, 85, 86, 87, 88, 89, 90, 91, 92, 93, 94, 95, 96, 97, 98, 99, 100, 101, 102, 103, 104, 105, 106, 107, 109, 110, 111, 112, 113, 114, 115, 116, 117, 118, 119, 120, 121, 122, 123, 124, 125, 126, 128, 129, 130, 131, 132, 133, 134, 135, 136, 137, 138, 139, 140, 141, 142, 143, 144, 145, 146, 147, 148, 149, 150, 151, 152, 153, 155, 156, 157, 158, 160, 161, 162, 163, 164, 165, 166, 167, 168, 170, 172, 173, 174, 176, 177, 184, 185, 186, 187, 188, 189, 190, 191, 192, 193, 195, 196, 197, 198, 200, 202, 203, 204, 205, 206, 207, 208, 209, 212, 213]
def zerT : TypeId → Option PV := fun t =>
  bif t == 1 then some (.sc .nilFunc) else
  bif t == 2 then some (.sc (.int .i64 0)) else
  bif t == 3 then some (.sc (.int .i64 0)) else
  bif t == 4 then some (.sc (.bool false)) else
  bif t == 5 then some (.sc (.int .u8 0)) else
  bif t == 9 then some (.sc (.string ByteArray.empty)) else
  bif t == 12 then some (.sc (.int .u64 0)) else
  bif t == 21 then some (.sc (.int .i32 0)) else
  bif t == 22 then some (.ro 106 true true []) else
  bif t == 23 then some (.sc .nilFunc) else
  bif t == 24 then some (.sc .nilFunc) else
  bif t == 25 then some (.ro 93 true true []) else
  bif t == 26 then some (.ro 41 true true []) else
  bif t == 28 then some (.sc .nilFunc) else
  bif t == 29 then some (.ro 5 true true []) else
  bif t == 30 then some (.st 30 (List.replicate 3 (.ro 5 true true []))) else
  bif t == 31 then some (.st 31 (List.replicate 3 (.ro 5 true true []))) else
  bif t == 32 then some (.sc .nilFunc) else
  bif t == 33 then some (.st 33 [.sc (.int .i64 0), .sc (.int .i64 0)]) else
  bif t == 34 then some (.st 34 [.sc (.int .i64 0), .sc (.int .i64 0)]) else
  bif t == 35 then some (.ro 45 true true []) else
  bif t == 36 then some (.ar 36 (List.replicate 32 (.sc (.int .u8 0)))) else
  bif t == 37 then some (.ar 37 (List.replicate 32 (.sc (.int .u8 0)))) else
  bif t == 38 then some (.st 38 [.st 34 [.sc (.int .i64 0), .sc (.int .i64 0)], .sc (.string ByteArray.empty), .ro 45 true true [], .sc (.int .i64 0), .ar 37 (List.replicate 32 (.sc (.int .u8 0)))]) else
  bif t == 39 then some (.st 39 [.st 34 [.sc (.int .i64 0), .sc (.int .i64 0)], .sc (.string ByteArray.empty), .ro 45 true true [], .sc (.int .i64 0), .ar 37 (List.replicate 32 (.sc (.int .u8 0)))]) else
  bif t == 40 then some (.sc .nilFunc) else
  bif t == 41 then some (.st 41 [.st 34 [.sc (.int .i64 0), .sc (.int .i64 0)], .sc (.string ByteArray.empty), .ro 45 true true [], .sc (.int .i64 0), .ar 37 (List.replicate 32 (.sc (.int .u8 0)))]) else
  bif t == 42 then some (.sc .nilFunc) else
  bif t == 43 then some (.sc .nilFunc) else
  bif t == 44 then some (.st 44 [.sc (.int .i64 0), .sc (.int .i64 0)]) else
  bif t == 45 then some (.st 45 [.sc (.int .i64 0), .sc (.int .i64 0)]) else
  bif t == 46 then some (.sc .nilFunc) else
  bif t == 47 then some (.ro 29 true true []) else
  bif t == 48 then some (.sc .nilFunc) else
  bif t == 49 then some (.sc .nilFunc) else
  bif t == 50 then some (.sc .nilFunc) else
  bif t == 51 then some (.sc .nilFunc) else
  bif t == 52 then some (.sc .nilFunc) else
  bif t == 53 then some (.st 53 [.sc (.int .i64 0), .sc (.int .i64 0), .sc (.int .i64 0), .st 34 [.sc (.int .i64 0), .sc (.int .i64 0)], .st 45 [.sc (.int .i64 0), .sc (.int .i64 0)], .sc (.int .i64 0), .sc (.int .i64 0), .st 45 [.sc (.int .i64 0), .sc (.int .i64 0)], .sc (.int .i64 0), .sc (.int .i64 0), .ro 29 true true []]) else
  bif t == 54 then some (.st 54 [.sc (.int .i64 0), .sc (.int .i64 0), .sc (.int .i64 0), .st 34 [.sc (.int .i64 0), .sc (.int .i64 0)], .st 45 [.sc (.int .i64 0), .sc (.int .i64 0)], .sc (.int .i64 0), .sc (.int .i64 0), .st 45 [.sc (.int .i64 0), .sc (.int .i64 0)], .sc (.int .i64 0), .sc (.int .i64 0), .ro 29 true true []]) else
  bif t == 55 then some (.ro 3 true true []) else
  bif t == 56 then some (.sc .nilFunc) else
  bif t == 57 then some (.sc .nilFunc) else
  bif t == 58 then some (.sc .nilFunc) else
  bif t == 59 then some (.sc .nilFunc) else
  bif t == 60 then some (.sc (.int .i64 0)) else
  bif t == 62 then some (.sc .nilFunc) else
  bif t == 64 then some (.sc .nilFunc) else
  bif t == 65 then some (.sc .nilFunc) else
  bif t == 66 then some (.sc .nilFunc) else
  bif t == 67 then some (.sc .nilFunc) else
  bif t == 68 then some (.sc .nilFunc) else
  bif t == 69 then some (.sc .nilFunc) else
  bif t == 70 then some (.ro 99 true true []) else
  bif t == 71 then some (.ro 99 true true []) else
  bif t == 72 then some (.st 72 [.st 45 [.sc (.int .i64 0), .sc (.int .i64 0)], .sc (.int .i64 0), .sc (.int .i64 0), .ar 37 (List.replicate 32 (.sc (.int .u8 0))), .sc (.int .i64 0), .ro 99 true true [], .st 45 [.sc (.int .i64 0), .sc (.int .i64 0)]]) else
  bif t == 73 then some (.st 73 [.st 45 [.sc (.int .i64 0), .sc (.int .i64 0)], .sc (.int .i64 0), .sc (.int .i64 0), .ar 37 (List.replicate 32 (.sc (.int .u8 0))), .sc (.int .i64 0), .ro 99 true true [], .st 45 [.sc (.int .i64 0), .sc (.int .i64 0)]]) else
  bif t == 74 then some (.sc .nilFunc) else
  bif t == 75 then some (.sc .nilFunc) else
  bif t == 76 then some (.st 76 [.ro 5 true true [], .ar 37 (List.replicate 32 (.sc (.int .u8 0)))]) else
  bif t == 77 then some (.st 77 [.ro 5 true true [], .ar 37 (List.replicate 32 (.sc (.int .u8 0)))]) else
  bif t == 78 then some (.sc .nilFunc) else
  bif t == 79 then some (.sc .nilFunc) else
  bif t == 81 then some (.sc .nilFunc) else
  bif t == 82 then some (.sc .nilFunc) else
  bif t == 83 then some (.ro 31 true true []) else
  bif t == 85 then some (.sc .nilFunc) else
  bif t == 86 then some (.sc .nilFunc) else
  bif t == 87 then some (.sc .nilFunc) else
  bif t == 88 then some (.sc .nilFunc) else
  bif t == 89 then some (.sc .nilFunc) else
  bif t == 90 then some (.sc .nilFunc) else
  bif t == 91 then some (.sc .nilFunc) else
  bif t == 92 then some (.st 92 [.st 77 [.ro 5 true true [], .ar 37 (List.replicate 32 (.sc (.int .u8 0)))], .sc (.int .i64 0), .ro 99 true true [], .ar 37 (List.replicate 32 (.sc (.int .u8 0))), .ar 37 (List.replicate 32 (.sc (.int .u8 0)))]) else
  bif t == 93 then some (.st 93 [.st 77 [.ro 5 true true [], .ar 37 (List.replicate 32 (.sc (.int .u8 0)))], .sc (.int .i64 0), .ro 99 true true [], .ar 37 (List.replicate 32 (.sc (.int .u8 0))), .ar 37 (List.replicate 32 (.sc (.int .u8 0)))]) else
  bif t == 94 then some (.sc .nilFunc) else
  bif t == 95 then some (.sc .nilFunc) else
  bif t == 96 then some (.sc .nilFunc) else
  bif t == 97 then some (.sc .nilFunc) else
  bif t == 98 then some (.st 98 [.sc (.int .i64 0), .sc (.int .i64 0), .sc (.string ByteArray.empty)]) else
  bif t == 99 then some (.st 99 [.sc (.int .i64 0), .sc (.int .i64 0), .sc (.string ByteArray.empty)]) else
  bif t == 100 then some (.sc .nilFunc) else
  bif t == 101 then some (.sc .nilFunc) else
  bif t == 102 then some (.sc .nilFunc) else
  bif t == 103 then some (.sc .nilFunc) else
  bif t == 104 then some (.sc .nilFunc) else
  bif t == 105 then some (.st 105 [.sc (.int .i64 0), .sc (.int .i64 0), .sc (.int .i64 0), .ro 3 true true []]) else
  bif t == 106 then some (.st 106 [.sc (.int .i64 0), .sc (.int .i64 0), .sc (.int .i64 0), .ro 3 true true []]) else
  bif t == 107 then some (.sc .nilFunc) else
  bif t == 109 then some (.sc .nilFunc) else
  bif t == 110 then some (.sc .nilFunc) else
  bif t == 111 then some (.sc (.int .u32 0)) else
  bif t == 112 then some (.ar 112 (List.replicate 8 (.sc (.int .u32 0)))) else
  bif t == 113 then some (.ar 113 (List.replicate 8 (.sc (.int .u32 0)))) else
  bif t == 114 then some (.sc .nilFunc) else
  bif t == 115 then some (.sc .nilFunc) else
  bif t == 116 then some (.sc .nilFunc) else
  bif t == 117 then some (.sc .nilFunc) else
  bif t == 118 then some (.ar 118 (List.replicate 64 (.sc (.int .u32 0)))) else
  bif t == 119 then some (.sc .nilFunc) else
  bif t == 120 then some (.sc (.int .u64 0)) else
  bif t == 121 then some (.sc (.int .u64 0)) else
  bif t == 122 then some (.sc .nilFunc) else
  bif t == 123 then some (.sc .nilFunc) else
  bif t == 124 then some (.sc .nilFunc) else
  bif t == 125 then some (.sc (.pointer none)) else
  bif t == 126 then some (.sc .nilFunc) else
  bif t == 128 then some (.sc .nilFunc) else
  bif t == 129 then some (.sc .nilFunc) else
  bif t == 130 then some (.sc .nilFunc) else
  bif t == 131 then some (.sc .nilFunc) else
  bif t == 132 then some (.sc .nilFunc) else
  bif t == 133 then some (.sc (.pointer none)) else
  bif t == 134 then some (.sc .nilFunc) else
  bif t == 135 then some (.sc .nilFunc) else
  bif t == 136 then some (.sc .nilFunc) else
  bif t == 137 then some (.st 137 [.ro 5 true true [], .sc (.int .i64 0), .sc (.int .i64 0)]) else
  bif t == 138 then some (.st 138 [.ro 5 true true [], .sc (.int .i64 0), .sc (.int .i64 0)]) else
  bif t == 139 then some (.sc .nilFunc) else
  bif t == 140 then some (.sc .nilFunc) else
  bif t == 141 then some (.sc .nilFunc) else
  bif t == 142 then some (.sc .nilFunc) else
  bif t == 143 then some (.sc .nilFunc) else
  bif t == 144 then some (.sc .nilFunc) else
  bif t == 145 then some (.ro 148 true true []) else
  bif t == 146 then some (.sc .nilFunc) else
  bif t == 147 then some (.sc (.pointer none)) else
  bif t == 148 then some (.sc (.pointer none)) else
  bif t == 149 then some (.sc .nilFunc) else
  bif t == 150 then some (.sc .nilFunc) else
  bif t == 151 then some (.sc .nilFunc) else
  bif t == 152 then some (.sc .nilFunc) else
  bif t == 153 then some (.sc .nilFunc) else
  bif t == 155 then some (.sc .nilFunc) else
  bif t == 156 then some (.sc .nilFunc) else
  bif t == 157 then some (.sc .nilFunc) else
  bif t == 158 then some (.sc .nilFunc) else
  bif t == 160 then some (.sc .nilFunc) else
  bif t == 161 then some (.sc .nilFunc) else
  bif t == 162 then some (.sc .nilFunc) else
  bif t == 163 then some (.sc (.complex .f64 0 0)) else
  bif t == 164 then some (.sc (.float .f64 0)) else
  bif t == 165 then some (.ro 163 true true []) else
  bif t == 166 then some (.sc .nilFunc) else
  bif t == 167 then some (.sc .nilFunc) else
  bif t == 168 then some (.sc .nilFunc) else
  bif t == 170 then some (.sc .nilFunc) else
  bif t == 172 then some (.sc .nilFunc) else
  bif t == 173 then some (.sc .nilFunc) else
  bif t == 174 then some (.sc .nilFunc) else
  bif t == 176 then some (.sc .nilFunc) else
  bif t == 177 then some (.sc .nilFunc) else
  bif t == 184 then some (.sc .nilFunc) else
  bif t == 185 then some (.st 185 [.ro 5 true true [], .sc (.int .i64 0)]) else
  bif t == 186 then some (.st 186 [.ro 5 true true [], .sc (.int .i64 0)]) else
  bif t == 187 then some (.sc .nilFunc) else
  bif t == 188 then some (.sc .nilFunc) else
  bif t == 189 then some (.ar 189 (List.replicate 64 (.sc (.int .u8 0)))) else
  bif t == 190 then some (.ar 190 (List.replicate 64 (.sc (.int .u8 0)))) else
  bif t == 191 then some (.sc .nilFunc) else
  bif t == 192 then some (.sc .nilFunc) else
  bif t == 193 then some (.sc .nilFunc) else
  bif t == 195 then some (.sc .nilFunc) else
  bif t == 196 then some (.sc .nilFunc) else
  bif t == 197 then some (.sc .nilFunc) else
  bif t == 198 then some (.sc .nilFunc) else
  bif t == 200 then some (.sc .nilFunc) else
  bif t == 202 then some (.sc .nilFunc) else
  bif t == 203 then some (.sc (.pointer none)) else
  bif t == 204 then some (.sc .nilFunc) else
  bif t == 205 then some (.sc .nilFunc) else
  bif t == 206 then some (.sc .nilFunc) else
  bif t == 207 then some (.sc .nilFunc) else
  bif t == 208 then some (.sc .nilFunc) else
  bif t == 209 then some (.sc .nilFunc) else
  bif t == 212 then some (.sc .nilFunc) else
  bif t == 213 then some (.sc .nilFunc) else
  none
noncomputable def tau : Tab := tabOf Try.prog tys zerT
theorem tabOk : TabOk tau Try.prog := tabOk_of (by kernel_rfl)
theorem mixed : Try.prog.follows .mixedOrders = true := by kernel_rfl
def F0 : Fns := fun _ => none
theorem F0_ok : FnsOk tau Try.prog F0 := fun g sg h => by cases h
end Go.Proofs.Ytcklhipdldpkhaa.Rx

namespace Go.Proofs.Ytcklhipdldpkhaa.Rx
open Go
set_option linter.unusedVariables false
set_option maxRecDepth 100000
set_option maxHeartbeats 0
noncomputable def F21 : Fns := F0
theorem F21_ok : FnsOk tau Try.prog F21 := F0_ok
def an21 : An := (.seq .leaf (.seq .leaf (.seq .leaf .leaf)))
noncomputable def g21 (f : Nat) (b_z : Bool) (b_f : Bool) (b : List PV) (k : Res → Option Res) : Option Res := bif decide (0 ≤ minI (zi b.length) 60) && true && decide ((minI (zi b.length) 60).toNat ≤ b.length) && true then bif roomy (2 + (List.take (minI (zi b.length) 60).toNat b).length) 1 && true then bif roomy (2 + (List.take (minI (zi b.length) 60).toNat b).length) 1 && true then bif roomy (2 + (List.take (minI (zi b.length) 60).toNat b).length) 1 && true then k (Res.mk (.st 31 [.ro 5 false false (List.take (2 + (List.take (minI (zi b.length) 60).toNat b).length) (.sc (.int .u8 107) :: .sc (.int .u8 48) :: id (List.take (minI (zi b.length) 60).toNat b))), .ro 5 false false (List.take (2 + (List.take (minI (zi b.length) 60).toNat b).length) (.sc (.int .u8 107) :: .sc (.int .u8 49) :: id (List.take (minI (zi b.length) 60).toNat b))), .ro 5 false false (List.take (2 + (List.take (minI (zi b.length) 60).toNat b).length) (.sc (.int .u8 107) :: .sc (.int .u8 50) :: id (List.take (minI (zi b.length) 60).toNat b)))]) [] []) else none else none else none else none
theorem e21 (f : Nat) (b_z : Bool) (b_f : Bool) (b : List PV) (k : Res → Option Res) : evFn tau F21 Try.f21 (Try.f21.body.get!) an21 [.ro] 0 [.ro 5 b_z b_f b] [] k = g21 f b_z b_f b k := by kernel_rfl
theorem it21 (f : Nat) : items (Try.f21.body.get!) an21 = [] := by kernel_rfl
theorem ia21 (f : Nat) : ∀ q ∈ items (Try.f21.body.get!) an21, q.Ok tau Try.prog 0 := by
  rw [it21 f]; intro q hq; cases hq
theorem fo21 : Try.prog.funcs[21]? = some Try.f21 := by kernel_rfl
theorem bo21 : Try.f21.body = some (Try.f21.body.get!) := by kernel_rfl
theorem en21 : Enters Try.prog 21 := enters_of fo21 (by kernel_rfl) bo21
noncomputable def run21 : List PV → List Ent → (Res → Option Res) → Option Res
  | [.ro 5 b_z b_f b], [], k => g21 0 b_z b_f b k
  | _, _, _ => none
noncomputable def s21 : Sig := { own := [], run := run21 }
theorem ok21 : CallOk tau Try.prog 21 s21 := fn_ok tabOk F21_ok mixed fo21 bo21 an21 [.ro] 0 [] run21 (ia21 0) fun xs es k res hr => by
  unfold run21 at hr
  split at hr
  · exact ⟨rfl, 0, (e21 0 _ _ _  _).trans hr⟩
  · cases hr
end Go.Proofs.Ytcklhipdldpkhaa.Rx

namespace Go.Proofs.Ytcklhipdldpkhaa.Rx
open Go
set_option linter.unusedVariables false
set_option maxRecDepth 100000
set_option maxHeartbeats 0
noncomputable def F35 : Fns := F0
theorem F35_ok : FnsOk tau Try.prog F35 := F0_ok
def an35 : An := (.seq .leaf (.seq .leaf (.seq (.seq .leaf (.cond .leaf .leaf)) (.seq .leaf .leaf))))
noncomputable def g35 (f : Nat) (at1 : Int) (n : Int) (k : Res → Option Res) : Option Res := bif !decide (n = 0) && true then bif decide (at1.tmod n < 0) then k (Res.mk (.sc (.int .i64 (IntKind.i64.wrap (at1.tmod n + n)))) [] []) else k (Res.mk (.sc (.int .i64 (at1.tmod n))) [] []) else none
theorem e35 (f : Nat) (at1 : Int) (n : Int) (k : Res → Option Res) : evFn tau F35 Try.f35 (Try.f35.body.get!) an35 [.ro] 0 [.sc (.int .i64 at1), .sc (.int .i64 n)] [] k = g35 f at1 n k := by kernel_rfl
theorem it35 (f : Nat) : items (Try.f35.body.get!) an35 = [] := by kernel_rfl
theorem ia35 (f : Nat) : ∀ q ∈ items (Try.f35.body.get!) an35, q.Ok tau Try.prog 0 := by
  rw [it35 f]; intro q hq; cases hq
theorem fo35 : Try.prog.funcs[35]? = some Try.f35 := by kernel_rfl
theorem bo35 : Try.f35.body = some (Try.f35.body.get!) := by kernel_rfl
theorem en35 : Enters Try.prog 35 := enters_of fo35 (by kernel_rfl) bo35
noncomputable def run35 : List PV → List Ent → (Res → Option Res) → Option Res
  | [.sc (.int .i64 at1), .sc (.int .i64 n)], [], k => g35 0 at1 n k
  | _, _, _ => none
noncomputable def s35 : Sig := { own := [], run := run35 }
theorem ok35 : CallOk tau Try.prog 35 s35 := fn_ok tabOk F35_ok mixed fo35 bo35 an35 [.ro] 0 [] run35 (ia35 0) fun xs es k res hr => by
  unfold run35 at hr
  split at hr
  · exact ⟨rfl, 0, (e35 0 _ _  _).trans hr⟩
  · cases hr
end Go.Proofs.Ytcklhipdldpkhaa.Rx

-- FN law16.within
namespace Go.Proofs.Ytcklhipdldpkhaa.Rx
open Go
set_option linter.unusedVariables false
set_option maxRecDepth 100000
noncomputable def okW : Int → Bool := hid fun n => decide (0 < n) && decide (n < 1000000000000)
theorem okW_eq (n : Int) : okW n = (decide (0 < n) && decide (n < 1000000000000)) := by rw [okW, hid_eq]
noncomputable def run35' : List PV → List Ent → (Res → Option Res) → Option Res
  | [.sc (.int .i64 a), .sc (.int .i64 n)], [], k => bif okW n then k ⟨.sc (.int .i64 (a % n)), [], []⟩ else none
  | _, _, _ => none
noncomputable def s35' : Sig := { own := [], run := run35' }
theorem g35_eq (a n : Int) (h : 0 < n) (h2 : n < 1000000000000) (k : Res → Option Res) : g35 0 a n k = k ⟨.sc (.int .i64 (a % n)), [], []⟩ := by
  have hn : (n == 0) = false := by simp; omega
  have e := Int.tmod_eq_emod (a := a) (b := n)
  have e0 := Int.emod_nonneg a (show n ≠ 0 by omega)
  have e1 := Int.emod_lt_of_pos a h
  have hna : (n.natAbs : Int) = n := by omega
  unfold g35
  refine (bif_t (by simp; omega)).trans ?_
  by_cases hc : a.tmod n < 0
  · refine (bif_t (by simpa using hc)).trans ?_
    have : IntKind.i64.wrap (a.tmod n + n) = a % n := by
      split at e <;> (rw [wrap_i64 (by omega) (by omega)]; omega)
    rw [this]
  · refine (bif_f (by simpa using hc)).trans ?_
    have : a.tmod n = a % n := by split at e <;> omega
    rw [this]
theorem ok35' : CallOk tau Try.prog 35 s35' := ok35.of fun xs es k res hr => by
  change run35' xs es k = some res at hr
  unfold run35' at hr
  split at hr
  · obtain ⟨hc, hr⟩ := of_bif hr
    simp only [okW_eq, Bool.and_eq_true, decide_eq_true_eq] at hc
    exact (g35_eq _ _ hc.1 hc.2 _).trans hr
  · cases hr
end Go.Proofs.Ytcklhipdldpkhaa.Rx

namespace Go.Proofs.Ytcklhipdldpkhaa.Rx
open Go
set_option linter.unusedVariables false
set_option maxRecDepth 100000
set_option maxHeartbeats 0
noncomputable def F33 : Fns := addF 35 s35' (F0)
theorem F33_ok : FnsOk tau Try.prog F33 := (F0_ok).add ok35' en35
def an33 : An := (.seq .leaf (.seq .leaf (.seq .leaf (.seq .leaf (.seq .leaf (.seq .leaf (.seq .leaf (.seq .leaf .leaf))))))))
noncomputable def g33 (f : Nat) (m_Kind : Int) (m_From : Int) (m_To : Int) (m_W_Host : Int) (m_W_N : Int) (m_Creator_D : Int) (m_Creator_U : Int) (m_Version : Int) (m_Commit : Int) (m_Author_D : Int) (m_Author_U : Int) (m_Sub : Int) (m_Err : Int) (m_Body_z : Bool) (m_Body_f : Bool) (m_Body : List PV) (k : Res → Option Res) : Option Res := bif okW 5 then bif okW 3 then bif okW 3 then bif okW 100 then bif okW 2 then bif okW 3 then bif okW 8 then bif okW 3 then bif okW 8 then bif okW 1073741824 then bif okW 1073741824 then bif okW 1073741824 then bif okW 256 then bif decide (0 ≤ minI (zi m_Body.length) 4) && true && decide ((minI (zi m_Body.length) 4).toNat ≤ m_Body.length) && true then k (Res.mk (.st 54 [.sc (.int .i64 (IntKind.i64.wrap (1 + m_Kind % 5))), .sc (.int .i64 (m_From % 3)), .sc (.int .i64 ((IntKind.i64.wrap (IntKind.i64.wrap (m_From % 3 + 1) + m_To % 2)).tmod 3)), .st 34 [.sc (.int .i64 (m_W_Host % 3)), .sc (.int .i64 (m_W_N % 100))], .st 45 [.sc (.int .i64 (m_Creator_D % 3)), .sc (.int .i64 (m_Creator_U % 8))], .sc (.int .i64 (m_Version % 1073741824)), .sc (.int .i64 (m_Commit % 1073741824)), .st 45 [.sc (.int .i64 (m_Author_D % 3)), .sc (.int .i64 (m_Author_U % 8))], .sc (.int .i64 (m_Sub % 1073741824)), .sc (.int .i64 (m_Err % 256)), .ro 29 m_Body_z (m_Body_z || m_Body_f && false) (List.take (minI (zi m_Body.length) 4).toNat m_Body)]) [] []) else none else none else none else none else none else none else none else none else none else none else none else none else none else none
theorem e33 (f : Nat) (m_Kind : Int) (m_From : Int) (m_To : Int) (m_W_Host : Int) (m_W_N : Int) (m_Creator_D : Int) (m_Creator_U : Int) (m_Version : Int) (m_Commit : Int) (m_Author_D : Int) (m_Author_U : Int) (m_Sub : Int) (m_Err : Int) (m_Body_z : Bool) (m_Body_f : Bool) (m_Body : List PV) (k : Res → Option Res) : evFn tau F33 Try.f33 (Try.f33.body.get!) an33 [.ro] 0 [.st 54 [.sc (.int .i64 m_Kind), .sc (.int .i64 m_From), .sc (.int .i64 m_To), .st 34 [.sc (.int .i64 m_W_Host), .sc (.int .i64 m_W_N)], .st 45 [.sc (.int .i64 m_Creator_D), .sc (.int .i64 m_Creator_U)], .sc (.int .i64 m_Version), .sc (.int .i64 m_Commit), .st 45 [.sc (.int .i64 m_Author_D), .sc (.int .i64 m_Author_U)], .sc (.int .i64 m_Sub), .sc (.int .i64 m_Err), .ro 29 m_Body_z m_Body_f m_Body]] [] k = g33 f m_Kind m_From m_To m_W_Host m_W_N m_Creator_D m_Creator_U m_Version m_Commit m_Author_D m_Author_U m_Sub m_Err m_Body_z m_Body_f m_Body k := by kernel_rfl
theorem it33 (f : Nat) : items (Try.f33.body.get!) an33 = [] := by kernel_rfl
theorem ia33 (f : Nat) : ∀ q ∈ items (Try.f33.body.get!) an33, q.Ok tau Try.prog 0 := by
  rw [it33 f]; intro q hq; cases hq
theorem fo33 : Try.prog.funcs[33]? = some Try.f33 := by kernel_rfl
theorem bo33 : Try.f33.body = some (Try.f33.body.get!) := by kernel_rfl
theorem en33 : Enters Try.prog 33 := enters_of fo33 (by kernel_rfl) bo33
noncomputable def run33 : List PV → List Ent → (Res → Option Res) → Option Res
  | [.st 54 [.sc (.int .i64 m_Kind), .sc (.int .i64 m_From), .sc (.int .i64 m_To), .st 34 [.sc (.int .i64 m_W_Host), .sc (.int .i64 m_W_N)], .st 45 [.sc (.int .i64 m_Creator_D), .sc (.int .i64 m_Creator_U)], .sc (.int .i64 m_Version), .sc (.int .i64 m_Commit), .st 45 [.sc (.int .i64 m_Author_D), .sc (.int .i64 m_Author_U)], .sc (.int .i64 m_Sub), .sc (.int .i64 m_Err), .ro 29 m_Body_z m_Body_f m_Body]], [], k => g33 0 m_Kind m_From m_To m_W_Host m_W_N m_Creator_D m_Creator_U m_Version m_Commit m_Author_D m_Author_U m_Sub m_Err m_Body_z m_Body_f m_Body k
  | _, _, _ => none
noncomputable def s33 : Sig := { own := [], run := run33 }
theorem ok33 : CallOk tau Try.prog 33 s33 := fn_ok tabOk F33_ok mixed fo33 bo33 an33 [.ro] 0 [] run33 (ia33 0) fun xs es k res hr => by
  unfold run33 at hr
  split at hr
  · exact ⟨rfl, 0, (e33 0 _ _ _ _ _ _ _ _ _ _ _ _ _ _ _ _  _).trans hr⟩
  · cases hr
end Go.Proofs.Ytcklhipdldpkhaa.Rx

namespace Go.Proofs.Ytcklhipdldpkhaa.Rx
open Go
set_option linter.unusedVariables false
set_option maxRecDepth 100000
set_option maxHeartbeats 0
def N32 : Nat := 22
noncomputable def F32 : Fns := F0
theorem F32_ok : FnsOk tau Try.prog F32 := F0_ok
noncomputable def c32_0 : Code := subC (Try.f32.body.get!) [1, 0, 1, 0, 0]
def nm32_0 : Nm := [(1, .any), (3, .any)]
def nx32_0 : Nm := [(1, .any), (2, .any)]
def x32_0 : An := (.seq (.seq .leaf (.cond .leaf .leaf)) (.seq (.block none (.seq .leaf (.cond (.seq .leaf .leaf) .leaf))) .leaf))
def an32 (r0 : RunL) : An := (.seq .leaf (.seq (.seq .leaf (.block none (.sum nm32_0 N32 r0))) (.seq .leaf .leaf)))
noncomputable def lpS32_0 (f : Nat) (rc : Int → Int → Int → Int → Int → Int → Int → Int → Int → Int → Int → Int → Int → Int → Bool → Bool → List PV → Option Res) (k0 : Bool → Int → Int → Int → Int → Int → Int → Int → Int → Int → Int → Int → Int → Int → Bool → Bool → List PV → Option Res) (k1 : Int → Int → Int → Int → Int → Int → Int → Int → Int → Int → Int → Int → Int → Bool → Bool → List PV → Option Res) (v0 : Int) (v1 : Int) (v2 : Int) (v3 : Int) (v4 : Int) (v5 : Int) (v6 : Int) (v7 : Int) (v8 : Int) (v9 : Int) (v10 : Int) (v11 : Int) (v12 : Int) (v13 : Int) (v14 : Bool) (v15 : Bool) (v16 : List PV) : Option Res := bif decide (v0 < zi v16.length) then bif decide (0 ≤ v0) && decide (v0 < zi v16.length) && PV.isRo 5 (v16.getD v0.toNat PV.top) && true then bif decide (zi (v16.getD v0.toNat PV.top).els.length > 200) then k0 false v1 v2 v3 v4 v5 v6 v7 v8 v9 v10 v11 v12 v13 v14 v15 v16 else rc (IntKind.i64.wrap (v0 + 1)) v1 v2 v3 v4 v5 v6 v7 v8 v9 v10 v11 v12 v13 v14 v15 v16 else none else k1 v1 v2 v3 v4 v5 v6 v7 v8 v9 v10 v11 v12 v13 v14 v15 v16
noncomputable def lp32_0 (f : Nat) (k0 : Bool → Int → Int → Int → Int → Int → Int → Int → Int → Int → Int → Int → Int → Int → Bool → Bool → List
  PV → Option Res) (k1 : Int → Int → Int → Int → Int → Int → Int → Int → Int → Int → Int → Int → Int → Bool → Bool → List
  PV → Option Res) : Nat → Int → Int → Int → Int → Int → Int → Int → Int → Int → Int → Int → Int → Int → Int → Bool → Bool → List PV → Option Res
  | 0, _, _, _, _, _, _, _, _, _, _, _, _, _, _, _, _, _ => none
  | n + 1, v0, v1, v2, v3, v4, v5, v6, v7, v8, v9, v10, v11, v12, v13, v14, v15, v16 => lpS32_0 f (lp32_0 f k0 k1 n) k0 k1 v0 v1 v2 v3 v4 v5 v6 v7 v8 v9 v10 v11 v12 v13 v14 v15 v16
theorem lpR32_0 (f : Nat) (k : Kont) (n : Nat) (v0 : Int) (v1 : Int) (v2 : Int) (v3 : Int) (v4 : Int) (v5 : Int) (v6 : Int) (v7 : Int) (v8 : Int) (v9 : Int) (v10 : Int) (v11 : Int) (v12 : Int) (v13 : Int) (v14 : Bool) (v15 : Bool) (v16 : List PV) : evLoop tau 0 nm32_0 (fun s k => ev tau F32 0 0 c32_0 (x32_0 ) s k) (n + 1) (fillS nm32_0 N32 [.ptr 368 [], .sc (.int .i64 v0)] [(368, .box false 54 (PV.st 54 [.sc (.int .i64 v1), .sc (.int .i64 v2), .sc (.int .i64 v3), .st 34 [.sc (.int .i64 v4), .sc (.int .i64 v5)], .st 45 [.sc (.int .i64 v6), .sc (.int .i64 v7)], .sc (.int .i64 v8), .sc (.int .i64 v9), .st 45 [.sc (.int .i64 v10), .sc (.int .i64 v11)], .sc (.int .i64 v12), .sc (.int .i64 v13), .ro 29 v14 v15 v16]))]) (kNorm tau 0 nx32_0 k) = lpS32_0 f (fun v0 v1 v2 v3 v4 v5 v6 v7 v8 v9 v10 v11 v12 v13 v14 v15 v16 => evLoop tau 0 nm32_0 (fun s k => ev tau F32 0 0 c32_0 (x32_0 ) s k) n (fillS nm32_0 N32 [.ptr 368 [], .sc (.int .i64 v0)] [(368, .box false 54 (PV.st 54 [.sc (.int .i64 v1), .sc (.int .i64 v2), .sc (.int .i64 v3), .st 34 [.sc (.int .i64 v4), .sc (.int .i64 v5)], .st 45 [.sc (.int .i64 v6), .sc (.int .i64 v7)], .sc (.int .i64 v8), .sc (.int .i64 v9), .st 45 [.sc (.int .i64 v10), .sc (.int .i64 v11)], .sc (.int .i64 v12), .sc (.int .i64 v13), .ro 29 v14 v15 v16]))]) (kNorm tau 0 nx32_0 k)) (fun x0 x1 x2 x3 x4 x5 x6 x7 x8 x9 x10 x11 x12 x13 x14 x15 x16 => k Ex.ret (fillS nx32_0 N32 [.ptr 368 [], .sc (.bool x0)] [(368, .box false 54 (PV.st 54 [.sc (.int .i64 x1), .sc (.int .i64 x2), .sc (.int .i64 x3), .st 34 [.sc (.int .i64 x4), .sc (.int .i64 x5)], .st 45 [.sc (.int .i64 x6), .sc (.int .i64 x7)], .sc (.int .i64 x8), .sc (.int .i64 x9), .st 45 [.sc (.int .i64 x10), .sc (.int .i64 x11)], .sc (.int .i64 x12), .sc (.int .i64 x13), .ro 29 x14 x15 x16]))])) (fun x0 x1 x2 x3 x4 x5 x6 x7 x8 x9 x10 x11 x12 x13 x14 x15 => k (Ex.exit 0) (fillS nx32_0 N32 [.ptr 368 [], PV.top] [(368, .box false 54 (PV.st 54 [.sc (.int .i64 x0), .sc (.int .i64 x1), .sc (.int .i64 x2), .st 34 [.sc (.int .i64 x3), .sc (.int .i64 x4)], .st 45 [.sc (.int .i64 x5), .sc (.int .i64 x6)], .sc (.int .i64 x7), .sc (.int .i64 x8), .st 45 [.sc (.int .i64 x9), .sc (.int .i64 x10)], .sc (.int .i64 x11), .sc (.int .i64 x12), .ro 29 x13 x14 x15]))])) v0 v1 v2 v3 v4 v5 v6 v7 v8 v9 v10 v11 v12 v13 v14 v15 v16 := by kernel_rfl
theorem lpE32_0 (f : Nat) (k : Kont) : ∀ (n : Nat) (v0 : Int) (v1 : Int) (v2 : Int) (v3 : Int) (v4 : Int) (v5 : Int) (v6 : Int) (v7 : Int) (v8 : Int) (v9 : Int) (v10 : Int) (v11 : Int) (v12 : Int) (v13 : Int) (v14 : Bool) (v15 : Bool) (v16 : List PV), evLoop tau 0 nm32_0 (fun s k => ev tau F32 0 0 c32_0 (x32_0 ) s k) n (fillS nm32_0 N32 [.ptr 368 [], .sc (.int .i64 v0)] [(368, .box false 54 (PV.st 54 [.sc (.int .i64 v1), .sc (.int .i64 v2), .sc (.int .i64 v3), .st 34 [.sc (.int .i64 v4), .sc (.int .i64 v5)], .st 45 [.sc (.int .i64 v6), .sc (.int .i64 v7)], .sc (.int .i64 v8), .sc (.int .i64 v9), .st 45 [.sc (.int .i64 v10), .sc (.int .i64 v11)], .sc (.int .i64 v12), .sc (.int .i64 v13), .ro 29 v14 v15 v16]))]) (kNorm tau 0 nx32_0 k) = lp32_0 f (fun x0 x1 x2 x3 x4 x5 x6 x7 x8 x9 x10 x11 x12 x13 x14 x15 x16 => k Ex.ret (fillS nx32_0 N32 [.ptr 368 [], .sc (.bool x0)] [(368, .box false 54 (PV.st 54 [.sc (.int .i64 x1), .sc (.int .i64 x2), .sc (.int .i64 x3), .st 34 [.sc (.int .i64 x4), .sc (.int .i64 x5)], .st 45 [.sc (.int .i64 x6), .sc (.int .i64 x7)], .sc (.int .i64 x8), .sc (.int .i64 x9), .st 45 [.sc (.int .i64 x10), .sc (.int .i64 x11)], .sc (.int .i64 x12), .sc (.int .i64 x13), .ro 29 x14 x15 x16]))])) (fun x0 x1 x2 x3 x4 x5 x6 x7 x8 x9 x10 x11 x12 x13 x14 x15 => k (Ex.exit 0) (fillS nx32_0 N32 [.ptr 368 [], PV.top] [(368, .box false 54 (PV.st 54 [.sc (.int .i64 x0), .sc (.int .i64 x1), .sc (.int .i64 x2), .st 34 [.sc (.int .i64 x3), .sc (.int .i64 x4)], .st 45 [.sc (.int .i64 x5), .sc (.int .i64 x6)], .sc (.int .i64 x7), .sc (.int .i64 x8), .st 45 [.sc (.int .i64 x9), .sc (.int .i64 x10)], .sc (.int .i64 x11), .sc (.int .i64 x12), .ro 29 x13 x14 x15]))])) n v0 v1 v2 v3 v4 v5 v6 v7 v8 v9 v10 v11 v12 v13 v14 v15 v16 | 0, _, _, _, _, _, _, _, _, _, _, _, _, _, _, _, _, _ => rfl | n + 1, v0, v1, v2, v3, v4, v5, v6, v7, v8, v9, v10, v11, v12, v13, v14, v15, v16 => (lpR32_0 f k n v0 v1 v2 v3 v4 v5 v6 v7 v8 v9 v10 v11 v12 v13 v14 v15 v16).trans (congrArg (fun r => lpS32_0 f r (fun x0 x1 x2 x3 x4 x5 x6 x7 x8 x9 x10 x11 x12 x13 x14 x15 x16 => k Ex.ret (fillS nx32_0 N32 [.ptr 368 [], .sc (.bool x0)] [(368, .box false 54 (PV.st 54 [.sc (.int .i64 x1), .sc (.int .i64 x2), .sc (.int .i64 x3), .st 34 [.sc (.int .i64 x4), .sc (.int .i64 x5)], .st 45 [.sc (.int .i64 x6), .sc (.int .i64 x7)], .sc (.int .i64 x8), .sc (.int .i64 x9), .st 45 [.sc (.int .i64 x10), .sc (.int .i64 x11)], .sc (.int .i64 x12), .sc (.int .i64 x13), .ro 29 x14 x15 x16]))])) (fun x0 x1 x2 x3 x4 x5 x6 x7 x8 x9 x10 x11 x12 x13 x14 x15 => k (Ex.exit 0) (fillS nx32_0 N32 [.ptr 368 [], PV.top] [(368, .box false 54 (PV.st 54 [.sc (.int .i64 x0), .sc (.int .i64 x1), .sc (.int .i64 x2), .st 34 [.sc (.int .i64 x3), .sc (.int .i64 x4)], .st 45 [.sc (.int .i64 x5), .sc (.int .i64 x6)], .sc (.int .i64 x7), .sc (.int .i64 x8), .st 45 [.sc (.int .i64 x9), .sc (.int .i64 x10)], .sc (.int .i64 x11), .sc (.int .i64 x12), .ro 29 x13 x14 x15]))])) v0 v1 v2 v3 v4 v5 v6 v7 v8 v9 v10 v11 v12 v13 v14 v15 v16) (by funext v0 v1 v2 v3 v4 v5 v6 v7 v8 v9 v10 v11 v12 v13 v14 v15 v16; exact lpE32_0 f k n v0 v1 v2 v3 v4 v5 v6 v7 v8 v9 v10 v11 v12 v13 v14 v15 v16))
noncomputable def r32_0 (f : Nat) : List PV → List (Nat × Ent) → Kont → Option Res
  | [.ptr 368 [],
  PV.sc
    (Value.int IntKind.i64
      v0)], [(368,
    Ent.box false 54
      (PV.st 54
        [.sc (.int .i64 v1), .sc (.int .i64 v2), .sc (.int .i64 v3), .st 34 [.sc (.int .i64 v4), .sc (.int .i64 v5)],
          PV.st 45 [.sc (.int .i64 v6), .sc (.int .i64 v7)], .sc (.int .i64 v8), .sc (.int .i64 v9),
          PV.st 45 [.sc (.int .i64 v10), .sc (.int .i64 v11)], .sc (.int .i64 v12), .sc (.int .i64 v13),
          PV.ro 29 v14 v15
            v16]))], k => lp32_0 f (fun x0 x1 x2 x3 x4 x5 x6 x7 x8 x9 x10 x11 x12 x13 x14 x15 x16 => k Ex.ret (fillS nx32_0 N32 [.ptr 368 [],
  PV.sc
    (Value.bool
      x0)] [(368,
    Ent.box false 54
      (PV.st 54
        [.sc (.int .i64 x1), .sc (.int .i64 x2), .sc (.int .i64 x3), .st 34 [.sc (.int .i64 x4), .sc (.int .i64 x5)],
          PV.st 45 [.sc (.int .i64 x6), .sc (.int .i64 x7)], .sc (.int .i64 x8), .sc (.int .i64 x9),
          PV.st 45 [.sc (.int .i64 x10), .sc (.int .i64 x11)], .sc (.int .i64 x12), .sc (.int .i64 x13),
          PV.ro 29 x14 x15
            x16]))])) (fun x0 x1 x2 x3 x4 x5 x6 x7 x8 x9 x10 x11 x12 x13 x14 x15 => k (Ex.exit
  0) (fillS nx32_0 N32 [.ptr 368 [],
  PV.top] [(368,
    Ent.box false 54
      (PV.st 54
        [.sc (.int .i64 x0), .sc (.int .i64 x1), .sc (.int .i64 x2), .st 34 [.sc (.int .i64 x3), .sc (.int .i64 x4)],
          PV.st 45 [.sc (.int .i64 x5), .sc (.int .i64 x6)], .sc (.int .i64 x7), .sc (.int .i64 x8),
          PV.st 45 [.sc (.int .i64 x9), .sc (.int .i64 x10)], .sc (.int .i64 x11), .sc (.int .i64 x12),
          PV.ro 29 x13 x14 x15]))])) f v0 v1 v2 v3 v4 v5 v6 v7 v8 v9 v10 v11 v12 v13 v14 v15 v16
  | _, _, _ => none
theorem it32_0 (f : Nat) : items c32_0 x32_0 = [] := by kernel_rfl
theorem i32_0 (f : Nat) : (Item.l c32_0 nm32_0 N32 (r32_0 f)).Ok tau Try.prog 0 := loop_item tabOk F32_ok mixed (x := x32_0) (nm2 := nx32_0) (anOk_items _ _ (by rw [it32_0 f]; intro q hq; cases hq)) fun vs hp k res hr => by
  unfold r32_0 at hr
  split at hr
  · exact ⟨f, 0, (lpE32_0 f _ f _ _ _ _ _ _ _ _ _ _ _ _ _ _ _ _ _ ).trans hr⟩
  · cases hr
noncomputable def g32 (f : Nat) (m_Kind : Int) (m_From : Int) (m_To : Int) (m_W_Host : Int) (m_W_N : Int) (m_Creator_D : Int) (m_Creator_U : Int) (m_Version : Int) (m_Commit : Int) (m_Author_D : Int) (m_Author_U : Int) (m_Sub : Int) (m_Err : Int) (m_Body_z : Bool) (m_Body_f : Bool) (m_Body : List PV) (k : Res → Option Res) : Option Res := lp32_0 f (fun x0_0 x1_0 x2_0 x3_0 x4_0 x5_0 x6_0 x7_0 x8_0 x9_0 x10_0 x11_0 x12_0 x13_0 x14_0 x15_0 x16_0 => k (Res.mk (.sc (.bool x0_0)) [] [])) (fun x0_1 x1_1 x2_1 x3_1 x4_1 x5_1 x6_1 x7_1 x8_1 x9_1 x10_1 x11_1 x12_1 x13_1 x14_1 x15_1 => k (Res.mk (.sc (.bool (decide (zi x15_1.length ≤ 6)))) [] [])) f (0) m_Kind m_From m_To m_W_Host m_W_N m_Creator_D m_Creator_U m_Version m_Commit m_Author_D m_Author_U m_Sub m_Err m_Body_z m_Body_f m_Body
theorem e32 (f : Nat) (m_Kind : Int) (m_From : Int) (m_To : Int) (m_W_Host : Int) (m_W_N : Int) (m_Creator_D : Int) (m_Creator_U : Int) (m_Version : Int) (m_Commit : Int) (m_Author_D : Int) (m_Author_U : Int) (m_Sub : Int) (m_Err : Int) (m_Body_z : Bool) (m_Body_f : Bool) (m_Body : List PV) (k : Res → Option Res) : evFn tau F32 Try.f32 (Try.f32.body.get!) (an32 (r32_0 f)) [.ro] 0 [.st 54 [.sc (.int .i64 m_Kind), .sc (.int .i64 m_From), .sc (.int .i64 m_To), .st 34 [.sc (.int .i64 m_W_Host), .sc (.int .i64 m_W_N)], .st 45 [.sc (.int .i64 m_Creator_D), .sc (.int .i64 m_Creator_U)], .sc (.int .i64 m_Version), .sc (.int .i64 m_Commit), .st 45 [.sc (.int .i64 m_Author_D), .sc (.int .i64 m_Author_U)], .sc (.int .i64 m_Sub), .sc (.int .i64 m_Err), .ro 29 m_Body_z m_Body_f m_Body]] [] k = g32 f m_Kind m_From m_To m_W_Host m_W_N m_Creator_D m_Creator_U m_Version m_Commit m_Author_D m_Author_U m_Sub m_Err m_Body_z m_Body_f m_Body k := by kernel_rfl
theorem it32 (f : Nat) : items (Try.f32.body.get!) (an32 (r32_0 f)) = [.l c32_0 nm32_0 N32 (r32_0 f)] := by kernel_rfl
theorem ia32 (f : Nat) : ∀ q ∈ items (Try.f32.body.get!) (an32 (r32_0 f)), q.Ok tau Try.prog 0 := by
  rw [it32 f]; simp only [List.forall_mem_cons, List.not_mem_nil, false_implies, implies_true, and_true]; exact i32_0 f
theorem fo32 : Try.prog.funcs[32]? = some Try.f32 := by kernel_rfl
theorem bo32 : Try.f32.body = some (Try.f32.body.get!) := by kernel_rfl
theorem en32 : Enters Try.prog 32 := enters_of fo32 (by kernel_rfl) bo32
end Go.Proofs.Ytcklhipdldpkhaa.Rx

namespace Go.Proofs.Ytcklhipdldpkhaa.Rx
open Go
set_option linter.unusedVariables false
set_option maxRecDepth 100000
set_option maxHeartbeats 0
noncomputable def F131 : Fns := F0
theorem F131_ok : FnsOk tau Try.prog F131 := F0_ok
def an131 : An := (.seq .leaf (.seq (.seq .leaf (.cond (.seq .leaf .leaf) .leaf)) (.seq .leaf .leaf)))
noncomputable def g131 (f : Nat) (s_z : Bool) (s_f : Bool) (s : List PV) (k : Res → Option Res) : Option Res := bif s_z then k (Res.mk (.ro 5 true true []) [] []) else bif roomy (0 + s.length) 1 && true then k (Res.mk (.ro 5 false false (List.take (0 + s.length) s)) [] []) else none
theorem e131 (f : Nat) (s_z : Bool) (s_f : Bool) (s : List PV) (k : Res → Option Res) : evFn tau F131 Try.f131 (Try.f131.body.get!) an131 [.ro] 0 [.ro 5 s_z s_f s] [] k = g131 f s_z s_f s k := by kernel_rfl
theorem it131 (f : Nat) : items (Try.f131.body.get!) an131 = [] := by kernel_rfl
theorem ia131 (f : Nat) : ∀ q ∈ items (Try.f131.body.get!) an131, q.Ok tau Try.prog 0 := by
  rw [it131 f]; intro q hq; cases hq
theorem fo131 : Try.prog.funcs[131]? = some Try.f131 := by kernel_rfl
theorem bo131 : Try.f131.body = some (Try.f131.body.get!) := by kernel_rfl
theorem en131 : Enters Try.prog 131 := enters_of fo131 (by kernel_rfl) bo131
noncomputable def run131 : List PV → List Ent → (Res → Option Res) → Option Res
  | [.ro 5 s_z s_f s], [], k => g131 0 s_z s_f s k
  | _, _, _ => none
noncomputable def s131 : Sig := { own := [], run := run131 }
theorem ok131 : CallOk tau Try.prog 131 s131 := fn_ok tabOk F131_ok mixed fo131 bo131 an131 [.ro] 0 [] run131 (ia131 0) fun xs es k res hr => by
  unfold run131 at hr
  split at hr
  · exact ⟨rfl, 0, (e131 0 _ _ _  _).trans hr⟩
  · cases hr
end Go.Proofs.Ytcklhipdldpkhaa.Rx

-- FN slices.Clone[[]byte,byte]
namespace Go.Proofs.Ytcklhipdldpkhaa.Rx
open Go
set_option linter.unusedVariables false
set_option linter.unusedSimpArgs false
set_option maxRecDepth 100000
def slB (z : Bool) (l : List PV) : Bool := (!z || l.isEmpty) && Nat.ble l.length 1000000000
theorem slB_iff {z : Bool} {l : List PV} : slB z l = true ↔ (z = true → l = []) ∧ l.length ≤ 1000000000 := by
  simp only [slB, Bool.and_eq_true, Nat.ble_eq, Bool.or_eq_true, Bool.not_eq_true', List.isEmpty_iff]
  cases z <;> simp
def run131' : List PV → List Ent → (Res → Option Res) → Option Res
  | [.ro 5 z f l], [], k => bif slB z l then k ⟨.ro 5 z z l, [], []⟩ else none
  | _, _, _ => none
def s131' : Sig := { own := [], run := run131' }
theorem ok131' : CallOk tau Try.prog 131 s131' := ok131.of fun xs es k res hr => by
  change run131' xs es k = some res at hr
  unfold run131' at hr
  split at hr
  · rename_i z f l
    obtain ⟨hc, hr⟩ := of_bif hr
    obtain ⟨h1, h2⟩ := slB_iff.1 hc
    show g131 0 z f l k = some res
    unfold g131
    cases z with
    | true => obtain rfl := h1 rfl; exact hr
    | false =>
      rw [cond_false, bif_t (by simp [roomy]; omega)]
      simp only [Nat.zero_add, List.nil_append, List.take_length]
      exact hr
  · cases hr
end Go.Proofs.Ytcklhipdldpkhaa.Rx

namespace Go.Proofs.Ytcklhipdldpkhaa.Rx
open Go
set_option linter.unusedVariables false
set_option maxRecDepth 100000
set_option maxHeartbeats 0
noncomputable def F76 : Fns := addF 131 s131' (F0)
theorem F76_ok : FnsOk tau Try.prog F76 := (F0_ok).add ok131' en131
def an76 : An := (.seq .leaf (.seq .leaf .leaf))
noncomputable def g76 (f : Nat) (b_z : Bool) (b_f : Bool) (b : List PV) (k : Res → Option Res) : Option Res := bif slB b_z b then k (Res.mk (.ptr 16 []) [] [.box false 186 (PV.st 186 [.ro 5 b_z b_z b, .sc (.int .i64 0)])]) else none
theorem e76 (f : Nat) (b_z : Bool) (b_f : Bool) (b : List PV) (k : Res → Option Res) : evFn tau F76 Try.f76 (Try.f76.body.get!) an76 [.any] 0 [.ro 5 b_z b_f b] [] k = g76 f b_z b_f b k := by kernel_rfl
theorem it76 (f : Nat) : items (Try.f76.body.get!) an76 = [] := by kernel_rfl
theorem ia76 (f : Nat) : ∀ q ∈ items (Try.f76.body.get!) an76, q.Ok tau Try.prog 0 := by
  rw [it76 f]; intro q hq; cases hq
theorem fo76 : Try.prog.funcs[76]? = some Try.f76 := by kernel_rfl
theorem bo76 : Try.f76.body = some (Try.f76.body.get!) := by kernel_rfl
theorem en76 : Enters Try.prog 76 := enters_of fo76 (by kernel_rfl) bo76
noncomputable def run76 : List PV → List Ent → (Res → Option Res) → Option Res
  | [.ro 5 b_z b_f b], [], k => g76 0 b_z b_f b k
  | _, _, _ => none
noncomputable def s76 : Sig := { own := [], run := run76 }
theorem ok76 : CallOk tau Try.prog 76 s76 := fn_ok tabOk F76_ok mixed fo76 bo76 an76 [.any] 0 [] run76 (ia76 0) fun xs es k res hr => by
  unfold run76 at hr
  split at hr
  · exact ⟨rfl, 0, (e76 0 _ _ _  _).trans hr⟩
  · cases hr
end Go.Proofs.Ytcklhipdldpkhaa.Rx

namespace Go.Proofs.Ytcklhipdldpkhaa.Rx
open Go
set_option linter.unusedVariables false
set_option maxRecDepth 100000
set_option maxHeartbeats 0
noncomputable def F93 : Fns := F0
theorem F93_ok : FnsOk tau Try.prog F93 := F0_ok
def an93 : An := (.seq .leaf (.seq .leaf .leaf))
noncomputable def g93 (f : Nat) (m_Kind : Int) (m_From : Int) (m_To : Int) (m_W_Host : Int) (m_W_N : Int) (m_Creator_D : Int) (m_Creator_U : Int) (m_Version : Int) (m_Commit : Int) (m_Author_D : Int) (m_Author_U : Int) (m_Sub : Int) (m_Err : Int) (m_Body_z : Bool) (m_Body_f : Bool) (m_Body : List PV) (k : Res → Option Res) : Option Res := k (Res.mk (.ow 148 16 [] 0 12 (some 12)) [.box false 54 (PV.st 54 [.sc (.int .i64 m_Kind), .sc (.int .i64 m_From), .sc (.int .i64 m_To), .st 34 [.sc (.int .i64 m_W_Host), .sc (.int .i64 m_W_N)], .st 45 [.sc (.int .i64 m_Creator_D), .sc (.int .i64 m_Creator_U)], .sc (.int .i64 m_Version), .sc (.int .i64 m_Commit), .st 45 [.sc (.int .i64 m_Author_D), .sc (.int .i64 m_Author_U)], .sc (.int .i64 m_Sub), .sc (.int .i64 m_Err), .ro 29 m_Body_z m_Body_f m_Body])] [.vec false 148 false [.ptr 0 [1], .ptr 0 [2], .ptr 0 [3, 0], .ptr 0 [3, 1], .ptr 0 [4, 0], .ptr 0 [4, 1], .ptr 0 [5], .ptr 0 [6], .ptr 0 [7, 0], .ptr 0 [7, 1], .ptr 0 [8], .ptr 0 [9]]])
theorem e93 (f : Nat) (m_Kind : Int) (m_From : Int) (m_To : Int) (m_W_Host : Int) (m_W_N : Int) (m_Creator_D : Int) (m_Creator_U : Int) (m_Version : Int) (m_Commit : Int) (m_Author_D : Int) (m_Author_U : Int) (m_Sub : Int) (m_Err : Int) (m_Body_z : Bool) (m_Body_f : Bool) (m_Body : List PV) (k : Res → Option Res) : evFn tau F93 Try.f93 (Try.f93.body.get!) an93 [] 0 [.ptr 0 []] [.box false 54 (.st 54 [.sc (.int .i64 m_Kind), .sc (.int .i64 m_From), .sc (.int .i64 m_To), .st 34 [.sc (.int .i64 m_W_Host), .sc (.int .i64 m_W_N)], .st 45 [.sc (.int .i64 m_Creator_D), .sc (.int .i64 m_Creator_U)], .sc (.int .i64 m_Version), .sc (.int .i64 m_Commit), .st 45 [.sc (.int .i64 m_Author_D), .sc (.int .i64 m_Author_U)], .sc (.int .i64 m_Sub), .sc (.int .i64 m_Err), .ro 29 m_Body_z m_Body_f m_Body])] k = g93 f m_Kind m_From m_To m_W_Host m_W_N m_Creator_D m_Creator_U m_Version m_Commit m_Author_D m_Author_U m_Sub m_Err m_Body_z m_Body_f m_Body k := by kernel_rfl
theorem it93 (f : Nat) : items (Try.f93.body.get!) an93 = [] := by kernel_rfl
theorem ia93 (f : Nat) : ∀ q ∈ items (Try.f93.body.get!) an93, q.Ok tau Try.prog 1 := by
  rw [it93 f]; intro q hq; cases hq
theorem fo93 : Try.prog.funcs[93]? = some Try.f93 := by kernel_rfl
theorem bo93 : Try.f93.body = some (Try.f93.body.get!) := by kernel_rfl
theorem en93 : Enters Try.prog 93 := enters_of fo93 (by kernel_rfl) bo93
noncomputable def run93 : List PV → List Ent → (Res → Option Res) → Option Res
  | [.ptr 0 []], [.box false 54 (.st 54 [.sc (.int .i64 m_Kind), .sc (.int .i64 m_From), .sc (.int .i64 m_To), .st 34 [.sc (.int .i64 m_W_Host), .sc (.int .i64 m_W_N)], .st 45 [.sc (.int .i64 m_Creator_D), .sc (.int .i64 m_Creator_U)], .sc (.int .i64 m_Version), .sc (.int .i64 m_Commit), .st 45 [.sc (.int .i64 m_Author_D), .sc (.int .i64 m_Author_U)], .sc (.int .i64 m_Sub), .sc (.int .i64 m_Err), .ro 29 m_Body_z m_Body_f m_Body])], k => g93 0 m_Kind m_From m_To m_W_Host m_W_N m_Creator_D m_Creator_U m_Version m_Commit m_Author_D m_Author_U m_Sub m_Err m_Body_z m_Body_f m_Body k
  | _, _, _ => none
noncomputable def s93 : Sig := { own := [], run := run93 }
theorem ok93 : CallOk tau Try.prog 93 s93 := fn_ok tabOk F93_ok mixed fo93 bo93 an93 [] 1 [] run93 (ia93 0) fun xs es k res hr => by
  unfold run93 at hr
  split at hr
  · exact ⟨rfl, 0, (e93 0 _ _ _ _ _ _ _ _ _ _ _ _ _ _ _ _  _).trans hr⟩
  · cases hr
end Go.Proofs.Ytcklhipdldpkhaa.Rx

namespace Go.Proofs.Ytcklhipdldpkhaa.Rx
open Go
set_option linter.unusedVariables false
set_option maxRecDepth 100000
set_option maxHeartbeats 0
noncomputable def F134 : Fns := F0
theorem F134_ok : FnsOk tau Try.prog F134 := F0_ok
def an134 : An := (.seq .leaf (.cond .leaf .leaf))
noncomputable def g134 (f : Nat) (r_b_z : Bool) (r_b_f : Bool) (r_b : List PV) (r_e : Int) (e : Int) (k : Res → Option Res) : Option Res := bif r_e == 0 then k (Res.mk (.tup []) [.box false 186 (PV.st 186 [.ro 5 r_b_z r_b_f r_b, .sc (.int .i64 e)])] []) else k (Res.mk (.tup []) [.box false 186 (PV.st 186 [.ro 5 r_b_z r_b_f r_b, .sc (.int .i64 r_e)])] [])
theorem e134 (f : Nat) (r_b_z : Bool) (r_b_f : Bool) (r_b : List PV) (r_e : Int) (e : Int) (k : Res → Option Res) : evFn tau F134 Try.f134 (Try.f134.body.get!) an134 [] 0 [.ptr 0 [], .sc (.int .i64 e)] [.box false 186 (.st 186 [.ro 5 r_b_z r_b_f r_b, .sc (.int .i64 r_e)])] k = g134 f r_b_z r_b_f r_b r_e e k := by kernel_rfl
theorem it134 (f : Nat) : items (Try.f134.body.get!) an134 = [] := by kernel_rfl
theorem ia134 (f : Nat) : ∀ q ∈ items (Try.f134.body.get!) an134, q.Ok tau Try.prog 1 := by
  rw [it134 f]; intro q hq; cases hq
theorem fo134 : Try.prog.funcs[134]? = some Try.f134 := by kernel_rfl
theorem bo134 : Try.f134.body = some (Try.f134.body.get!) := by kernel_rfl
theorem en134 : Enters Try.prog 134 := enters_of fo134 (by kernel_rfl) bo134
noncomputable def run134 : List PV → List Ent → (Res → Option Res) → Option Res
  | [.ptr 0 [], .sc (.int .i64 e)], [.box false 186 (.st 186 [.ro 5 r_b_z r_b_f r_b, .sc (.int .i64 r_e)])], k => g134 0 r_b_z r_b_f r_b r_e e k
  | _, _, _ => none
noncomputable def s134 : Sig := { own := [], run := run134 }
theorem ok134 : CallOk tau Try.prog 134 s134 := fn_ok tabOk F134_ok mixed fo134 bo134 an134 [] 1 [] run134 (ia134 0) fun xs es k res hr => by
  unfold run134 at hr
  split at hr
  · exact ⟨rfl, 0, (e134 0 _ _ _ _ _  _).trans hr⟩
  · cases hr
end Go.Proofs.Ytcklhipdldpkhaa.Rx

namespace Go.Proofs.Ytcklhipdldpkhaa.Rx
open Go
set_option linter.unusedVariables false
set_option maxRecDepth 100000
set_option maxHeartbeats 0
noncomputable def F156 : Fns := addF 134 s134 (F0)
theorem F156_ok : FnsOk tau Try.prog F156 := (F0_ok).add ok134 en134
def an156 : An := (.seq .leaf (.seq (.seq .leaf (.cond .leaf .leaf)) (.seq (.seq .leaf (.cond (.seq .leaf .leaf) .leaf)) (.seq .leaf (.seq .leaf (.seq .leaf .leaf))))))
noncomputable def g156 (f : Nat) (r_b_z : Bool) (r_b_f : Bool) (r_b : List PV) (r_e : Int) (n : Int) (k : Res → Option Res) : Option Res := bif decide (n > zi r_b.length) then bif r_e == 0 then k (Res.mk (.ro 5 true true []) [.box false 186 (PV.st 186 [.ro 5 r_b_z r_b_f r_b, .sc (.int .i64 8)])] []) else bif r_e != 0 then k (Res.mk (.ro 5 true true []) [.box false 186 (PV.st 186 [.ro 5 r_b_z r_b_f r_b, .sc (.int .i64 r_e)])] []) else bif decide (0 ≤ n) && true && decide (n.toNat ≤ r_b.length) && true then bif decide (0 ≤ n) && true && decide (n.toNat ≤ r_b.length) && decide (r_b.length ≤ r_b.length) && true then k (Res.mk (.ro 5 r_b_z (r_b_z || r_b_f && false) (List.take n.toNat r_b)) [.box false 186 (PV.st 186 [.ro 5 r_b_z (r_b_z || r_b_f && true) (List.drop n.toNat (List.take r_b.length r_b)), .sc (.int .i64 r_e)])] []) else none else none else bif r_e != 0 then k (Res.mk (.ro 5 true true []) [.box false 186 (PV.st 186 [.ro 5 r_b_z r_b_f r_b, .sc (.int .i64 r_e)])] []) else bif decide (0 ≤ n) && true && decide (n.toNat ≤ r_b.length) && true then bif decide (0 ≤ n) && true && decide (n.toNat ≤ r_b.length) && decide (r_b.length ≤ r_b.length) && true then k (Res.mk (.ro 5 r_b_z (r_b_z || r_b_f && false) (List.take n.toNat r_b)) [.box false 186 (PV.st 186 [.ro 5 r_b_z (r_b_z || r_b_f && true) (List.drop n.toNat (List.take r_b.length r_b)), .sc (.int .i64 r_e)])] []) else none else none
theorem e156 (f : Nat) (r_b_z : Bool) (r_b_f : Bool) (r_b : List PV) (r_e : Int) (n : Int) (k : Res → Option Res) : evFn tau F156 Try.f156 (Try.f156.body.get!) an156 [.ro] 0 [.ptr 0 [], .sc (.int .i64 n)] [.box false 186 (.st 186 [.ro 5 r_b_z r_b_f r_b, .sc (.int .i64 r_e)])] k = g156 f r_b_z r_b_f r_b r_e n k := by kernel_rfl
theorem it156 (f : Nat) : items (Try.f156.body.get!) an156 = [] := by kernel_rfl
theorem ia156 (f : Nat) : ∀ q ∈ items (Try.f156.body.get!) an156, q.Ok tau Try.prog 1 := by
  rw [it156 f]; intro q hq; cases hq
theorem fo156 : Try.prog.funcs[156]? = some Try.f156 := by kernel_rfl
theorem bo156 : Try.f156.body = some (Try.f156.body.get!) := by kernel_rfl
theorem en156 : Enters Try.prog 156 := enters_of fo156 (by kernel_rfl) bo156
noncomputable def run156 : List PV → List Ent → (Res → Option Res) → Option Res
  | [.ptr 0 [], .sc (.int .i64 n)], [.box false 186 (.st 186 [.ro 5 r_b_z r_b_f r_b, .sc (.int .i64 r_e)])], k => g156 0 r_b_z r_b_f r_b r_e n k
  | _, _, _ => none
noncomputable def s156 : Sig := { own := [], run := run156 }
theorem ok156 : CallOk tau Try.prog 156 s156 := fn_ok tabOk F156_ok mixed fo156 bo156 an156 [.ro] 1 [] run156 (ia156 0) fun xs es k res hr => by
  unfold run156 at hr
  split at hr
  · exact ⟨rfl, 0, (e156 0 _ _ _ _ _  _).trans hr⟩
  · cases hr
end Go.Proofs.Ytcklhipdldpkhaa.Rx

namespace Go.Proofs.Ytcklhipdldpkhaa.Rx
open Go
set_option linter.unusedVariables false
set_option linter.unusedSimpArgs false
set_option maxRecDepth 100000
set_option maxHeartbeats 1000000
structure RS where
  b : List PV
  e : Int
def byB (l : List PV) : Bool := l.all fun p => p.isInt .u8 && (decide (0 ≤ p.int) && decide (p.int < 256))
def numL : List Int → Int
  | [] => 0
  | x :: r => x + 256 * numL r
def okS0 (n : Nat) (s : RS) : Bool := s.e == 0 && Nat.ble n s.b.length
def stepS0 (n : Nat) (s : RS) : RS := bif okS0 n s then ⟨s.b.drop n, 0⟩ else ⟨s.b, bif s.e == 0 then 8 else s.e⟩
def outS0 (n : Nat) (s : RS) : List PV := bif okS0 n s then s.b.take n else []
def numS0 (n : Nat) (s : RS) : Int := IntKind.i64.wrap (numL (ints (outS0 n s)))
noncomputable def okS : Nat → RS → Bool := hid okS0
noncomputable def outS : Nat → RS → List PV := hid outS0
theorem okS_eq (n : Nat) (s : RS) : okS n s = okS0 n s := by rw [okS, hid_eq]
theorem outS_eq (n : Nat) (s : RS) : outS n s = outS0 n s := by rw [outS, hid_eq]
noncomputable def stepS : Nat → RS → RS := hid stepS0
noncomputable def numS : Nat → RS → Int := hid numS0
theorem stepS_eq (n : Nat) (s : RS) : stepS n s = stepS0 n s := by rw [stepS, hid_eq]
theorem numS_eq (n : Nat) (s : RS) : numS n s = numS0 n s := by rw [numS, hid_eq]
def txtS0 (s : RS) : RS := stepS0 (numS0 2 s).toNat (stepS0 2 s)
def txtV0 (s : RS) : ByteArray := ⟨(toBytes (outS0 (numS0 2 s).toNat (stepS0 2 s))).toArray⟩
noncomputable def txtS : RS → RS := hid txtS0
noncomputable def txtV : RS → ByteArray := hid txtV0
theorem txtS_eq (s : RS) : txtS s = txtS0 s := by rw [txtS, hid_eq]
theorem txtV_eq (s : RS) : txtV s = txtV0 s := by rw [txtV, hid_eq]
theorem byB_iff {l : List PV} : byB l = true ↔ allInt .u8 l = true ∧ ∀ x ∈ ints l, 0 ≤ x ∧ x < 256 := by
  induction l with
  | nil => simp [byB, allInt, ints]
  | cons p ps ih =>
    have e1 : byB (p :: ps) = ((p.isInt .u8 && (decide (0 ≤ p.int) && decide (p.int < 256))) && byB ps) := rfl
    have e2 : ints (p :: ps) = p.int :: ints ps := rfl
    have e3 : allInt .u8 (p :: ps) = (p.isInt .u8 && allInt .u8 ps) := rfl
    rw [e1, e2, e3]
    simp only [Bool.and_eq_true, decide_eq_true_eq, List.mem_cons, forall_eq_or_imp, ih]
    constructor
    · rintro ⟨⟨h1, h2⟩, h3, h4⟩
      exact ⟨⟨h1, h3⟩, h2, h4⟩
    · rintro ⟨⟨h1, h3⟩, h2, h4⟩
      exact ⟨⟨h1, h2⟩, h3, h4⟩
theorem byB_take {l : List PV} (h : byB l = true) (n : Nat) : byB (l.take n) = true := List.all_eq_true.2 fun p hp => List.all_eq_true.1 h p (List.mem_of_mem_take hp)
theorem byB_drop {l : List PV} (h : byB l = true) (n : Nat) : byB (l.drop n) = true := List.all_eq_true.2 fun p hp => List.all_eq_true.1 h p (List.mem_of_mem_drop hp)
theorem byB_pu {l : List Int} : byB (pu .u8 l) = true ↔ ∀ x ∈ l, 0 ≤ x ∧ x < 256 := by rw [byB_iff]; simp
theorem byB_step {s : RS} (h : byB s.b = true) (n : Nat) : byB (stepS0 n s).b = true := by
  unfold stepS0; cases okS0 n s
  · exact h
  · exact byB_drop h n
theorem byB_out {s : RS} (h : byB s.b = true) (n : Nat) : byB (outS0 n s) = true := by
  unfold outS0; cases okS0 n s
  · rfl
  · exact byB_take h n
theorem out_length (n : Nat) (s : RS) : (outS0 n s).length ≤ n := by
  unfold outS0; cases okS0 n s
  · exact Nat.zero_le _
  · simp; omega
theorem step_length (n : Nat) (s : RS) : (stepS0 n s).b.length ≤ s.b.length := by
  unfold stepS0; cases okS0 n s
  · exact Nat.le_refl _
  · simp
theorem numL_bounds : ∀ (l : List Int), (∀ x ∈ l, 0 ≤ x ∧ x < 256) → 0 ≤ numL l ∧ numL l < 256 ^ l.length
  | [], h => by simp [numL]
  | x :: r, h => by
      have h1 := h x List.mem_cons_self
      have h2 := numL_bounds r fun y hy => h y (List.mem_cons_of_mem _ hy)
      simp only [numL, List.length_cons, Int.pow_succ]
      generalize (256 : Int) ^ r.length = B at *
      omega
theorem numS_small {s : RS} (h : byB s.b = true) {n : Nat} (hn : n ≤ 2) : 0 ≤ numS0 n s ∧ numS0 n s < 65536 := by
  have h1 := numL_bounds (ints (outS0 n s)) (byB_iff.1 (byB_out h n)).2
  have h2 : (ints (outS0 n s)).length ≤ 2 := by rw [ints_length]; exact Nat.le_trans (out_length n s) hn
  have h3 : (256 : Int) ^ (ints (outS0 n s)).length ≤ 65536 := by
    generalize (ints (outS0 n s)).length = m at *
    match m, h2 with
    | 0, _ => decide
    | 1, _ => decide
    | 2, _ => decide
  unfold numS0
  rw [wrap_i64 (by omega) (by omega)]; omega
structure RT where
  B : List PV
  P : Int
  e : Int
def RT.view (t : RT) : RS := ⟨t.B.drop t.P.toNat, t.e⟩
def okT (t : RT) : Bool := decide (0 ≤ t.P) && (decide (t.P ≤ (t.B.length : Int)) && (byB t.B && Nat.ble t.B.length 1000000000))
def stepT0 (n : Nat) (t : RT) : RT := bif okS0 n t.view then ⟨t.B, ((t.P.toNat + n : Nat) : Int), 0⟩ else ⟨t.B, t.P, bif t.e == 0 then 8 else t.e⟩
noncomputable def stepT : Nat → RT → RT := hid stepT0
noncomputable def numT : Nat → RT → Int := hid fun n t => numS0 n t.view
def txtT0 (t : RT) : RT := stepT0 (numS0 2 t.view).toNat (stepT0 2 t)
noncomputable def txtT : RT → RT := hid txtT0
noncomputable def txtVT : RT → ByteArray := hid fun t => txtV0 t.view
theorem stepT_eq (n : Nat) (t : RT) : stepT n t = stepT0 n t := by rw [stepT, hid_eq]
theorem numT_eq (n : Nat) (t : RT) : numT n t = numS0 n t.view := by rw [numT, hid_eq]
theorem txtT_eq (t : RT) : txtT t = txtT0 t := by rw [txtT, hid_eq]
theorem txtVT_eq (t : RT) : txtVT t = txtV0 t.view := by rw [txtVT, hid_eq]
theorem view_step (n : Nat) (t : RT) : (stepT0 n t).view = stepS0 n t.view := by
  unfold stepT0 stepS0
  cases okS0 n t.view with
  | true => simp only [cond_true, RT.view, Int.toNat_natCast, List.drop_drop]
  | false => simp only [cond_false, RT.view]
theorem view_txt (t : RT) : (txtT0 t).view = txtS0 t.view := by simp only [txtT0, txtS0, view_step]
@[simp] theorem numT_num (n : Nat) (t : RT) : numT n t = numS n t.view := by rw [numT_eq, numS_eq]
@[simp] theorem stepT_view (n : Nat) (t : RT) : (stepT n t).view = stepS n t.view := by rw [stepT_eq, stepS_eq, view_step]
@[simp] theorem txtT_view (t : RT) : (txtT t).view = txtS t.view := by rw [txtT_eq, txtS_eq, view_txt]
@[simp] theorem txtVT_txt (t : RT) : txtVT t = txtV t.view := by rw [txtVT_eq, txtV_eq]
theorem okT_step {t : RT} (h : okT t = true) (n : Nat) : okT (stepT0 n t) = true := by
  have h' := h
  simp only [okT, Bool.and_eq_true, decide_eq_true_eq, Nat.ble_eq] at h ⊢
  unfold stepT0
  cases hk : okS0 n t.view with
  | true =>
    simp only [cond_true]
    have hn : n ≤ (t.B.drop t.P.toNat).length := by
      simp only [okS0, RT.view, Bool.and_eq_true, Nat.ble_eq] at hk; exact hk.2
    rw [List.length_drop] at hn
    refine ⟨by omega, by omega, h.2.2⟩
  | false => exact h
theorem okT_txt {t : RT} (h : okT t = true) : okT (txtT0 t) = true := okT_step (okT_step h _) _
@[simp] theorem okT_stepT {t : RT} (h : okT t = true) (n : Nat) : okT (stepT n t) = true := by rw [stepT_eq]; exact okT_step h n
@[simp] theorem okT_txtT {t : RT} (h : okT t = true) : okT (txtT t) = true := by rw [txtT_eq]; exact okT_txt h
theorem ok_err {s : RS} (h : s.e ≠ 0) (n : Nat) : okS0 n s = false := by
  unfold okS0
  have : (s.e == 0) = false := by simpa using h
  rw [this]; rfl
theorem step_err {s : RS} (h : s.e ≠ 0) (n : Nat) : stepS0 n s = s := by
  unfold stepS0
  have : (s.e == 0) = false := by simpa using h
  rw [ok_err h, cond_false, this, cond_false]
theorem stepT_err {t : RT} (h : t.e ≠ 0) (n : Nat) : stepT0 n t = t := by
  unfold stepT0
  have : (t.e == 0) = false := by simpa using h
  rw [ok_err (s := t.view) h, cond_false, this, cond_false]
end Go.Proofs.Ytcklhipdldpkhaa.Rx

-- FN (*code.Reader).take
namespace Go.Proofs.Ytcklhipdldpkhaa.Rx
open Go
set_option linter.unusedVariables false
set_option linter.unusedSimpArgs false
set_option maxRecDepth 100000
set_option maxHeartbeats 1000000
abbrev rdP (z f : Bool) (s : RS) : Ent := .box false 186 (.st 186 [.ro 5 z f s.b, .sc (.int .i64 s.e)])
noncomputable def run156' : List PV → List Ent → (Res → Option Res) → Option Res
  | [.ptr 0 [], .sc (.int .i64 n)], [.box false 186 (.st 186 [.ro 5 z f b, .sc (.int .i64 e)])], k =>
    bif (!z || f) && decide (0 ≤ n) then k ⟨.ro 5 (!okS n.toNat ⟨b, e⟩ || z) (!okS n.toNat ⟨b, e⟩ || z) (outS n.toNat ⟨b, e⟩), [rdP z f (stepS n.toNat ⟨b, e⟩)], []⟩ else none
  | _, _, _ => none
noncomputable def s156' : Sig := { own := [], run := run156' }
theorem g156_eq (z f : Bool) (b : List PV) (e n : Int) (hz : (!z || f) = true) (hn : 0 ≤ n) (k : Res → Option Res) :
    g156 0 z f b e n k = k ⟨.ro 5 (!okS n.toNat ⟨b, e⟩ || z) (!okS n.toNat ⟨b, e⟩ || z) (outS n.toNat ⟨b, e⟩), [rdP z f (stepS n.toNat ⟨b, e⟩)], []⟩ := by
  rw [okS_eq, outS_eq, stepS_eq]
  have hzf : (z || f) = f := by cases z <;> cases f <;> simp_all
  have hz2 : (z || f && false) = z := by cases z <;> cases f <;> rfl
  unfold g156
  by_cases c1 : n > zi b.length
  · have hk : Nat.ble n.toNat b.length = false := by
      cases h : Nat.ble n.toNat b.length with
      | false => rfl
      | true => rw [Nat.ble_eq] at h; simp only [zi] at c1; omega
    rw [bif_t (by simpa using c1)]
    by_cases c2 : e = 0
    · subst c2
      simp only [beq_self_eq_true, cond_true]
      simp [okS0, outS0, stepS0, hk]
    · have hb : (e == 0) = false := by simpa using c2
      have hb2 : (e != 0) = true := by simpa using c2
      simp only [hb, hb2, cond_true, cond_false]
      simp [okS0, outS0, stepS0, hb]
  · rw [bif_f (by simpa using c1)]
    by_cases c2 : e = 0
    · subst c2
      have hk : Nat.ble n.toNat b.length = true := by rw [Nat.ble_eq]; simp only [zi] at c1; omega
      have hk' : n.toNat ≤ b.length := by rw [Nat.ble_eq] at hk; exact hk
      have h00 : ((0 : Int) != 0) = false := by decide
      simp only [h00, cond_false]
      rw [bif_t (by simp; omega), bif_t (by simp; omega)]
      simp [okS0, outS0, stepS0, hk, hzf, hz2]
    · have hb : (e == 0) = false := by simpa using c2
      have hb2 : (e != 0) = true := by simpa using c2
      simp only [hb2, cond_true]
      simp [okS0, outS0, stepS0, hb]
theorem ok156' : CallOk tau Try.prog 156 s156' := ok156.of fun xs es k res hr => by
  change run156' xs es k = some res at hr
  unfold run156' at hr
  split at hr
  · obtain ⟨hc, hr⟩ := of_bif hr
    simp only [Bool.and_eq_true, decide_eq_true_eq] at hc
    exact (g156_eq _ _ _ _ _ hc.1 hc.2 _).trans hr
  · cases hr
end Go.Proofs.Ytcklhipdldpkhaa.Rx

namespace Go.Proofs.Ytcklhipdldpkhaa.Rx
open Go
set_option linter.unusedVariables false
set_option maxRecDepth 100000
set_option maxHeartbeats 0
def N155 : Nat := 27
noncomputable def F155 : Fns := addF 156 s156' (F0)
theorem F155_ok : FnsOk tau Try.prog F155 := (F0_ok).add ok156' en156
noncomputable def c155_0 : Code := subC (Try.f155.body.get!) [1, 1, 0, 1, 0, 0]
def nm155_0 : Nm := [(5, .any), (10, .any), (11, .any), (12, .any)]
def nx155_0 : Nm := [(5, .any)]
def x155_0 : An := (.seq .leaf (.seq (.cond .leaf .leaf) (.seq (.block none (.seq .leaf .leaf)) .leaf)))
def an155 (r0 : RunL) : An := (.seq .leaf (.seq .leaf (.seq (.seq .leaf (.block none (.sum nm155_0 N155 r0))) (.seq .leaf .leaf))))
noncomputable def lpS155_0 (f : Nat) (rc : Int → Bool → Bool → List PV → Int → Int → Bool → Bool → List PV → Int → Option Res) (k0 : Int → Bool → Bool → List PV → Int → Option Res) (v0 : Int) (v1 : Bool) (v2 : Bool) (v3 : List PV) (v4 : Int) (v5 : Int) (v6 : Bool) (v7 : Bool) (v8 : List PV) (v9 : Int) : Option Res := bif decide (v5 < v4) then bif decide (0 ≤ v5) && decide (v5 < zi v3.length) && PV.isInt IntKind.u8 (v3.getD v5.toNat PV.top) && true then bif decide (0 ≤ IntKind.i64.wrap (8 * v5)) && true then rc (bitI BinOp.or IntKind.u64 v0 (shlI IntKind.u64 (IntKind.u64.wrap (v3.getD v5.toNat PV.top).int) (IntKind.i64.wrap (8 * v5)))) v1 v2 v3 v4 (IntKind.i64.wrap (v5 + 1)) v6 v7 v8 v9 else none else none else k0 v0 v6 v7 v8 v9
noncomputable def lp155_0 (f : Nat) (k0 : Int → Bool → Bool → List PV → Int → Option Res) : Nat → Int → Bool → Bool → List PV → Int → Int → Bool → Bool → List PV → Int → Option Res
  | 0, _, _, _, _, _, _, _, _, _, _ => none
  | n + 1, v0, v1, v2, v3, v4, v5, v6, v7, v8, v9 => lpS155_0 f (lp155_0 f k0 n) k0 v0 v1 v2 v3 v4 v5 v6 v7 v8 v9
theorem lpR155_0 (f : Nat) (k : Kont) (n : Nat) (v0 : Int) (v1 : Bool) (v2 : Bool) (v3 : List PV) (v4 : Int) (v5 : Int) (v6 : Bool) (v7 : Bool) (v8 : List PV) (v9 : Int) : evLoop tau 1 nm155_0 (fun s k => ev tau F155 1 0 c155_0 (x155_0 ) s k) (n + 1) (fillS nm155_0 N155 [.sc (.int .u64 v0), .ro 5 v1 v2 v3, .sc (.int .i64 v4), .sc (.int .i64 v5)] [(0, .box false 186 (PV.st 186 [.ro 5 v6 v7 v8, .sc (.int .i64 v9)]))]) (kNorm tau 1 nx155_0 k) = lpS155_0 f (fun v0 v1 v2 v3 v4 v5 v6 v7 v8 v9 => evLoop tau 1 nm155_0 (fun s k => ev tau F155 1 0 c155_0 (x155_0 ) s k) n (fillS nm155_0 N155 [.sc (.int .u64 v0), .ro 5 v1 v2 v3, .sc (.int .i64 v4), .sc (.int .i64 v5)] [(0, .box false 186 (PV.st 186 [.ro 5 v6 v7 v8, .sc (.int .i64 v9)]))]) (kNorm tau 1 nx155_0 k)) (fun x0 x1 x2 x3 x4 => k (Ex.exit 0) (fillS nx155_0 N155 [.sc (.int .u64 x0)] [(0, .box false 186 (PV.st 186 [.ro 5 x1 x2 x3, .sc (.int .i64 x4)]))])) v0 v1 v2 v3 v4 v5 v6 v7 v8 v9 := by kernel_rfl
theorem lpE155_0 (f : Nat) (k : Kont) : ∀ (n : Nat) (v0 : Int) (v1 : Bool) (v2 : Bool) (v3 : List PV) (v4 : Int) (v5 : Int) (v6 : Bool) (v7 : Bool) (v8 : List PV) (v9 : Int), evLoop tau 1 nm155_0 (fun s k => ev tau F155 1 0 c155_0 (x155_0 ) s k) n (fillS nm155_0 N155 [.sc (.int .u64 v0), .ro 5 v1 v2 v3, .sc (.int .i64 v4), .sc (.int .i64 v5)] [(0, .box false 186 (PV.st 186 [.ro 5 v6 v7 v8, .sc (.int .i64 v9)]))]) (kNorm tau 1 nx155_0 k) = lp155_0 f (fun x0 x1 x2 x3 x4 => k (Ex.exit 0) (fillS nx155_0 N155 [.sc (.int .u64 x0)] [(0, .box false 186 (PV.st 186 [.ro 5 x1 x2 x3, .sc (.int .i64 x4)]))])) n v0 v1 v2 v3 v4 v5 v6 v7 v8 v9 | 0, _, _, _, _, _, _, _, _, _, _ => rfl | n + 1, v0, v1, v2, v3, v4, v5, v6, v7, v8, v9 => (lpR155_0 f k n v0 v1 v2 v3 v4 v5 v6 v7 v8 v9).trans (congrArg (fun r => lpS155_0 f r (fun x0 x1 x2 x3 x4 => k (Ex.exit 0) (fillS nx155_0 N155 [.sc (.int .u64 x0)] [(0, .box false 186 (PV.st 186 [.ro 5 x1 x2 x3, .sc (.int .i64 x4)]))])) v0 v1 v2 v3 v4 v5 v6 v7 v8 v9) (by funext v0 v1 v2 v3 v4 v5 v6 v7 v8 v9; exact lpE155_0 f k n v0 v1 v2 v3 v4 v5 v6 v7 v8 v9))
noncomputable def r155_0 (f : Nat) : List PV → List (Nat × Ent) → Kont → Option Res
  | [.sc (.int .u64 v0), .ro 5 v1 v2 v3, .sc (.int .i64 v4),
  PV.sc
    (Value.int IntKind.i64
      v5)], [(0,
    Ent.box false 186
      (PV.st 186
        [.ro 5 v6 v7 v8,
          PV.sc
            (Value.int IntKind.i64
              v9)]))], k => lp155_0 f (fun x0 x1 x2 x3 x4 => k (Ex.exit
  0) (fillS nx155_0 N155 [.sc (.int .u64 x0)] [(0, .box false 186 (PV.st 186 [.ro 5 x1 x2 x3, .sc (.int .i64 x4)]))])) f v0 v1 v2 v3 v4 v5 v6 v7 v8 v9
  | _, _, _ => none
theorem it155_0 (f : Nat) : items c155_0 x155_0 = [] := by kernel_rfl
theorem i155_0 (f : Nat) : (Item.l c155_0 nm155_0 N155 (r155_0 f)).Ok tau Try.prog 1 := loop_item tabOk F155_ok mixed (x := x155_0) (nm2 := nx155_0) (anOk_items _ _ (by rw [it155_0 f]; intro q hq; cases hq)) fun vs hp k res hr => by
  unfold r155_0 at hr
  split at hr
  · exact ⟨f, 0, (lpE155_0 f _ f _ _ _ _ _ _ _ _ _ _ ).trans hr⟩
  · cases hr
noncomputable def g155 (f : Nat) (r_b_z : Bool) (r_b_f : Bool) (r_b : List PV) (r_e : Int) (n : Int) (k : Res → Option Res) : Option Res := bif (!r_b_z || r_b_f) && decide (0 ≤ n) then lp155_0 f (fun x0_0 x1_0 x2_0 x3_0 x4_0 => k (Res.mk (.sc (.int .i64 (IntKind.i64.wrap x0_0))) [.box false 186 (PV.st 186 [.ro 5 x1_0 x2_0 x3_0, .sc (.int .i64 x4_0)])] [])) f (0) (!okS n.toNat (RS.mk r_b r_e) || r_b_z) (!okS n.toNat (RS.mk r_b r_e) || r_b_z) (outS n.toNat (RS.mk r_b r_e)) (zi (outS n.toNat (RS.mk r_b r_e)).length) (0) r_b_z r_b_f ((stepS n.toNat (RS.mk r_b r_e)).b) ((stepS n.toNat (RS.mk r_b r_e)).e) else none
theorem e155 (f : Nat) (r_b_z : Bool) (r_b_f : Bool) (r_b : List PV) (r_e : Int) (n : Int) (k : Res → Option Res) : evFn tau F155 Try.f155 (Try.f155.body.get!) (an155 (r155_0 f)) [.ro] 0 [.ptr 0 [], .sc (.int .i64 n)] [.box false 186 (.st 186 [.ro 5 r_b_z r_b_f r_b, .sc (.int .i64 r_e)])] k = g155 f r_b_z r_b_f r_b r_e n k := by kernel_rfl
theorem it155 (f : Nat) : items (Try.f155.body.get!) (an155 (r155_0 f)) = [.l c155_0 nm155_0 N155 (r155_0 f)] := by kernel_rfl
theorem ia155 (f : Nat) : ∀ q ∈ items (Try.f155.body.get!) (an155 (r155_0 f)), q.Ok tau Try.prog 1 := by
  rw [it155 f]; simp only [List.forall_mem_cons, List.not_mem_nil, false_implies, implies_true, and_true]; exact i155_0 f
theorem fo155 : Try.prog.funcs[155]? = some Try.f155 := by kernel_rfl
theorem bo155 : Try.f155.body = some (Try.f155.body.get!) := by kernel_rfl
theorem en155 : Enters Try.prog 155 := enters_of fo155 (by kernel_rfl) bo155
end Go.Proofs.Ytcklhipdldpkhaa.Rx

-- FN (*code.Reader).number
namespace Go.Proofs.Ytcklhipdldpkhaa.Rx
open Go
set_option linter.unusedVariables false
set_option linter.unusedSimpArgs false
set_option maxRecDepth 100000
set_option maxHeartbeats 1000000
theorem numL_snoc : ∀ (l : List Int) (x : Int), numL (l ++ [x]) = numL l + x * 256 ^ l.length
  | [], x => by simp [numL]
  | y :: r, x => by
      simp only [List.cons_append, numL, numL_snoc r x, List.length_cons, Int.pow_succ]
      have : x * (256 ^ r.length * 256) = 256 * (x * 256 ^ r.length) := by rw [Int.mul_comm 256, Int.mul_assoc]
      omega
theorem pow256 (i : Nat) : (256 : Int) ^ i = 2 ^ (8 * i) := by rw [Int.pow_mul]; rfl
theorem or_apart {v y : Int} {j : Nat} (hj : j ≤ 64) (hv0 : 0 ≤ v) (hv : v < 2 ^ j) (hy0 : 0 ≤ y) (hy : y * 2 ^ j < 2 ^ 64) : bitI .or .u64 v (y * 2 ^ j) = v + y * 2 ^ j := by
  obtain ⟨a, rfl⟩ := Int.eq_ofNat_of_zero_le hv0
  obtain ⟨b, rfl⟩ := Int.eq_ofNat_of_zero_le hy0
  have e1 : ((b : Int)) * 2 ^ j = ((b * 2 ^ j : Nat) : Int) := by rw [Int.natCast_mul, Int.natCast_pow]; rfl
  have e2 : ((2 : Int)) ^ j = ((2 ^ j : Nat) : Int) := by rw [Int.natCast_pow]; rfl
  have e3 : ((2 : Int)) ^ 64 = ((2 ^ 64 : Nat) : Int) := by rw [Int.natCast_pow]; rfl
  rw [e2] at hv
  rw [e1, e3] at hy
  have ha : a < 2 ^ j := Int.ofNat_lt.1 hv
  have hb : b * 2 ^ j < 2 ^ 64 := Int.ofNat_lt.1 hy
  rw [e1]
  have hor : a ||| b * 2 ^ j = a + b * 2 ^ j := by
    have h := Nat.shiftLeft_add_eq_or_of_lt ha b
    rw [Nat.shiftLeft_eq] at h
    rw [Nat.or_comm, ← h, Nat.add_comm]
  have ha2 : a < 2 ^ 64 := Nat.lt_of_lt_of_le ha (Nat.pow_le_pow_right (by omega) hj)
  have hsum : a + b * 2 ^ j < 2 ^ 64 := by rw [← hor]; exact Nat.or_lt_two_pow ha2 hb
  generalize hc : b * 2 ^ j = c at *
  have ht : (BitVec.ofInt 64 (a : Int) ||| BitVec.ofInt 64 (c : Int)).toNat = a + c := by
    rw [BitVec.toNat_or, BitVec.ofInt_natCast, BitVec.ofInt_natCast, BitVec.toNat_ofNat, BitVec.toNat_ofNat, Nat.mod_eq_of_lt ha2, Nat.mod_eq_of_lt hb, hor]
  show IntKind.u64.wrap ((BitVec.ofInt 64 (a : Int) ||| BitVec.ofInt 64 (c : Int)).toNat : Int) = _
  rw [ht, wrap_u64_eq]
  have h64 : (2 : Nat) ^ 64 = 18446744073709551616 := by decide
  rw [h64] at hsum
  omega
theorem shl_byte {x : Int} (h0 : 0 ≤ x) (h1 : x < 256) {i : Nat} (hi : i < 8) : shlI .u64 (IntKind.u64.wrap x) (8 * (i : Int)) = x * 2 ^ (8 * i) := by
  rw [wrap_u64_eq, Int.emod_eq_of_lt h0 (by omega), shlI, wrap_u64_eq]
  have : min (8 * (i : Int)).toNat IntKind.u64.bits = 8 * i := by
    have : IntKind.u64.bits = 64 := rfl
    rw [this]; omega
  rw [this]
  have hp : (2 : Int) ^ (8 * i) ≤ 2 ^ 56 := by
    have h : (2 ^ (8 * i) : Nat) ≤ 2 ^ 56 := Nat.pow_le_pow_right (by omega) (by omega)
    have e2 : ((2 : Int)) ^ (8 * i) = ((2 ^ (8 * i) : Nat) : Int) := by rw [Int.natCast_pow]; rfl
    have e3 : ((2 : Int)) ^ 56 = ((2 ^ 56 : Nat) : Int) := by rw [Int.natCast_pow]; rfl
    rw [e2, e3]; exact Int.ofNat_le.2 h
  have hp0 : (0 : Int) ≤ 2 ^ (8 * i) := Int.le_of_lt (by have e2 : ((2 : Int)) ^ (8 * i) = ((2 ^ (8 * i) : Nat) : Int) := by rw [Int.natCast_pow]; rfl
                                                         rw [e2]; exact Int.ofNat_lt.2 (Nat.two_pow_pos _))
  have h56 : (2 : Int) ^ 56 = 72057594037927936 := by decide
  rw [h56] at hp
  have hm : x * 2 ^ (8 * i) ≤ 255 * 2 ^ (8 * i) := Int.mul_le_mul_of_nonneg_right (by omega) hp0
  have hm0 : 0 ≤ x * 2 ^ (8 * i) := Int.mul_nonneg h0 hp0
  exact Int.emod_eq_of_lt hm0 (by omega)
theorem l155_0 (L : List Int) (hL : ∀ x ∈ L, 0 ≤ x ∧ x < 256) (h8 : L.length ≤ 8) (f : Nat) (k0 : Int → Bool → Bool → List PV → Int → Option Res) (a b c d : Bool) (R : List PV) (e : Int) : ∀ (dd i n : Nat), i + dd = L.length → dd < n →
    lp155_0 f k0 n (numL (L.take i)) a b (pu .u8 L) (L.length : Int) (i : Int) c d R e = k0 (numL L) c d R e
  | 0, i, n + 1, h, hn => by
      obtain rfl : i = L.length := by omega
      simp only [lp155_0, lpS155_0, List.take_length]
      exact bif_f (by simp)
  | dd + 1, i, n + 1, h, hn => by
      have g1 : ((i : Int)).toNat = i := by omega
      have h1 : IntKind.i64.wrap ((i : Int) + 1) = ((i + 1 : Nat) : Int) := by rw [wrap_i64 (by omega) (by omega)]; omega
      have h2 : IntKind.i64.wrap (8 * (i : Int)) = 8 * (i : Int) := wrap_i64 (by omega) (by omega)
      have hi : i < L.length := by omega
      have hx := hL (L.getD i 0) (by rw [List.getD_eq_getElem?_getD, List.getElem?_eq_getElem hi]; exact List.getElem_mem hi)
      simp only [lp155_0, lpS155_0, g1, h1, h2]
      rw [pu_isInt hi, pu_int hi]
      refine (bif_t (by simp; omega)).trans ((bif_t (by simp [zi]; omega)).trans ((bif_t (by simp; omega)).trans ?_))
      have ht : L.take (i + 1) = L.take i ++ [L.getD i 0] := by
        rw [List.take_add_one, List.getD_eq_getElem?_getD, List.getElem?_eq_getElem hi]; rfl
      have hb := numL_bounds (L.take i) fun x hx => hL x (List.mem_of_mem_take hx)
      have hlen : (L.take i).length = i := by rw [List.length_take]; omega
      rw [hlen, pow256] at hb
      have hs := shl_byte hx.1 hx.2 (i := i) (by omega)
      have hlt : L.getD i 0 * 2 ^ (8 * i) < 2 ^ 64 := by
        have hp : (2 : Int) ^ (8 * i) ≤ 2 ^ 56 := by
          have h : (2 ^ (8 * i) : Nat) ≤ 2 ^ 56 := Nat.pow_le_pow_right (by omega) (by omega)
          have e2 : ((2 : Int)) ^ (8 * i) = ((2 ^ (8 * i) : Nat) : Int) := by rw [Int.natCast_pow]; rfl
          have e3 : ((2 : Int)) ^ 56 = ((2 ^ 56 : Nat) : Int) := by rw [Int.natCast_pow]; rfl
          rw [e2, e3]; exact Int.ofNat_le.2 h
        have hp0 : (0 : Int) ≤ 2 ^ (8 * i) := by omega
        have h56 : (2 : Int) ^ 56 = 72057594037927936 := by decide
        have h64 : (2 : Int) ^ 64 = 18446744073709551616 := by decide
        rw [h56] at hp; rw [h64]
        have hm : L.getD i 0 * 2 ^ (8 * i) ≤ 255 * 2 ^ (8 * i) := Int.mul_le_mul_of_nonneg_right (by omega) hp0
        omega
      rw [hs, or_apart (by omega) hb.1 hb.2 hx.1 hlt]
      have hn1 : numL (L.take i) + L.getD i 0 * 2 ^ (8 * i) = numL (L.take (i + 1)) := by
        rw [ht, numL_snoc, hlen, pow256]
      rw [hn1]
      exact l155_0 L hL h8 f k0 a b c d R e dd (i + 1) n (by omega) (by omega)
noncomputable def run155' : List PV → List Ent → (Res → Option Res) → Option Res
  | [.ptr 0 [], .sc (.int .i64 n)], [.box false 186 (.st 186 [.ro 5 z f b, .sc (.int .i64 e)])], k =>
    bif (!z || f) && (decide (0 ≤ n) && decide (n ≤ 8)) && byB b then k ⟨.sc (.int .i64 (numS n.toNat ⟨b, e⟩)), [rdP z f (stepS n.toNat ⟨b, e⟩)], []⟩ else none
  | _, _, _ => none
noncomputable def s155' : Sig := { own := [], run := run155' }
theorem g155_eq (z f : Bool) (b : List PV) (e n : Int) (hz : (!z || f) = true) (hn : 0 ≤ n) (hn8 : n ≤ 8) (hb : byB b = true) (k : Res → Option Res) :
    g155 20 z f b e n k = k ⟨.sc (.int .i64 (numS n.toNat ⟨b, e⟩)), [rdP z f (stepS n.toNat ⟨b, e⟩)], []⟩ := by
  unfold g155
  rw [bif_t (by rw [hz]; simpa using hn), numS_eq, outS_eq]
  have ho : byB (outS0 n.toNat ⟨b, e⟩) = true := byB_out hb _
  have hoi := byB_iff.1 ho
  have hl : (ints (outS0 n.toNat ⟨b, e⟩)).length ≤ 8 := by rw [ints_length]; exact Nat.le_trans (out_length _ _) (by omega)
  have hL := l155_0 (ints (outS0 n.toNat ⟨b, e⟩)) hoi.2 hl 20 (fun x0_0 x1_0 x2_0 x3_0 x4_0 => k (Res.mk (.sc (.int .i64 (IntKind.i64.wrap x0_0))) [.box false 186 (.st 186 [.ro 5 x1_0 x2_0 x3_0, .sc (.int .i64 x4_0)])] [])) (!okS n.toNat ⟨b, e⟩ || z) (!okS n.toNat ⟨b, e⟩ || z) z f (stepS n.toNat ⟨b, e⟩).b (stepS n.toNat ⟨b, e⟩).e (ints (outS0 n.toNat ⟨b, e⟩)).length 0 20 (by omega) (by omega)
  rw [← pu_ints hoi.1, ints_length] at hL
  simp only [List.take_zero, numL] at hL
  exact hL
theorem ok155' : CallOk tau Try.prog 155 s155' := CallOk.mk' fun xs es k res hl hr => by
  change run155' xs es k = some res at hr
  unfold run155' at hr
  split at hr
  · rename_i n z f b e
    obtain ⟨hc, hr⟩ := of_bif hr
    simp only [Bool.and_eq_true, decide_eq_true_eq] at hc
    exact fn_at tabOk F155_ok mixed fo155 bo155 (an155 (r155_0 20)) [.ro] 1 0 (ia155 20) hl rfl ((e155 20 z f b e n k).trans ((g155_eq z f b e n hc.1.1 hc.1.2.1 hc.1.2.2 hc.2 k).trans hr))
  · cases hr
end Go.Proofs.Ytcklhipdldpkhaa.Rx

namespace Go.Proofs.Ytcklhipdldpkhaa.Rx
open Go
set_option linter.unusedVariables false
set_option maxRecDepth 100000
set_option maxHeartbeats 0
noncomputable def F132 : Fns := addF 155 s155' (F0)
theorem F132_ok : FnsOk tau Try.prog F132 := (F0_ok).add ok155' en155
def an132 : An := (.seq .leaf (.seq .leaf .leaf))
noncomputable def g132 (f : Nat) (r_b_z : Bool) (r_b_f : Bool) (r_b : List PV) (r_e : Int) (k : Res → Option Res) : Option Res := bif (!r_b_z || r_b_f) && true && byB r_b then k (Res.mk (.sc (.int .i64 (numS 8 (RS.mk r_b r_e)))) [.box false 186 (PV.st 186 [.ro 5 r_b_z r_b_f (stepS 8 (RS.mk r_b r_e)).b, .sc (.int .i64 (stepS 8 (RS.mk r_b r_e)).e)])] []) else none
theorem e132 (f : Nat) (r_b_z : Bool) (r_b_f : Bool) (r_b : List PV) (r_e : Int) (k : Res → Option Res) : evFn tau F132 Try.f132 (Try.f132.body.get!) an132 [.ro] 0 [.ptr 0 []] [.box false 186 (.st 186 [.ro 5 r_b_z r_b_f r_b, .sc (.int .i64 r_e)])] k = g132 f r_b_z r_b_f r_b r_e k := by kernel_rfl
theorem it132 (f : Nat) : items (Try.f132.body.get!) an132 = [] := by kernel_rfl
theorem ia132 (f : Nat) : ∀ q ∈ items (Try.f132.body.get!) an132, q.Ok tau Try.prog 1 := by
  rw [it132 f]; intro q hq; cases hq
theorem fo132 : Try.prog.funcs[132]? = some Try.f132 := by kernel_rfl
theorem bo132 : Try.f132.body = some (Try.f132.body.get!) := by kernel_rfl
theorem en132 : Enters Try.prog 132 := enters_of fo132 (by kernel_rfl) bo132
noncomputable def run132 : List PV → List Ent → (Res → Option Res) → Option Res
  | [.ptr 0 []], [.box false 186 (.st 186 [.ro 5 r_b_z r_b_f r_b, .sc (.int .i64 r_e)])], k => g132 0 r_b_z r_b_f r_b r_e k
  | _, _, _ => none
noncomputable def s132 : Sig := { own := [], run := run132 }
theorem ok132 : CallOk tau Try.prog 132 s132 := fn_ok tabOk F132_ok mixed fo132 bo132 an132 [.ro] 1 [] run132 (ia132 0) fun xs es k res hr => by
  unfold run132 at hr
  split at hr
  · exact ⟨rfl, 0, (e132 0 _ _ _ _  _).trans hr⟩
  · cases hr
end Go.Proofs.Ytcklhipdldpkhaa.Rx

namespace Go.Proofs.Ytcklhipdldpkhaa.Rx
open Go
set_option linter.unusedVariables false
set_option maxRecDepth 100000
set_option maxHeartbeats 0
noncomputable def F133 : Fns := addF 155 s155' (F0)
theorem F133_ok : FnsOk tau Try.prog F133 := (F0_ok).add ok155' en155
def an133 : An := (.seq .leaf (.seq .leaf .leaf))
noncomputable def g133 (f : Nat) (r_b_z : Bool) (r_b_f : Bool) (r_b : List PV) (r_e : Int) (k : Res → Option Res) : Option Res := bif (!r_b_z || r_b_f) && true && byB r_b then k (Res.mk (.sc (.int .i64 (numS 1 (RS.mk r_b r_e)))) [.box false 186 (PV.st 186 [.ro 5 r_b_z r_b_f (stepS 1 (RS.mk r_b r_e)).b, .sc (.int .i64 (stepS 1 (RS.mk r_b r_e)).e)])] []) else none
theorem e133 (f : Nat) (r_b_z : Bool) (r_b_f : Bool) (r_b : List PV) (r_e : Int) (k : Res → Option Res) : evFn tau F133 Try.f133 (Try.f133.body.get!) an133 [.ro] 0 [.ptr 0 []] [.box false 186 (.st 186 [.ro 5 r_b_z r_b_f r_b, .sc (.int .i64 r_e)])] k = g133 f r_b_z r_b_f r_b r_e k := by kernel_rfl
theorem it133 (f : Nat) : items (Try.f133.body.get!) an133 = [] := by kernel_rfl
theorem ia133 (f : Nat) : ∀ q ∈ items (Try.f133.body.get!) an133, q.Ok tau Try.prog 1 := by
  rw [it133 f]; intro q hq; cases hq
theorem fo133 : Try.prog.funcs[133]? = some Try.f133 := by kernel_rfl
theorem bo133 : Try.f133.body = some (Try.f133.body.get!) := by kernel_rfl
theorem en133 : Enters Try.prog 133 := enters_of fo133 (by kernel_rfl) bo133
noncomputable def run133 : List PV → List Ent → (Res → Option Res) → Option Res
  | [.ptr 0 []], [.box false 186 (.st 186 [.ro 5 r_b_z r_b_f r_b, .sc (.int .i64 r_e)])], k => g133 0 r_b_z r_b_f r_b r_e k
  | _, _, _ => none
noncomputable def s133 : Sig := { own := [], run := run133 }
theorem ok133 : CallOk tau Try.prog 133 s133 := fn_ok tabOk F133_ok mixed fo133 bo133 an133 [.ro] 1 [] run133 (ia133 0) fun xs es k res hr => by
  unfold run133 at hr
  split at hr
  · exact ⟨rfl, 0, (e133 0 _ _ _ _  _).trans hr⟩
  · cases hr
end Go.Proofs.Ytcklhipdldpkhaa.Rx

namespace Go.Proofs.Ytcklhipdldpkhaa.Rx
open Go
set_option linter.unusedVariables false
set_option maxRecDepth 100000
set_option maxHeartbeats 0
noncomputable def F135 : Fns := addF 156 s156' (addF 155 s155' (F0))
theorem F135_ok : FnsOk tau Try.prog F135 := ((F0_ok).add ok155' en155).add ok156' en156
def an135 : An := (.seq .leaf (.seq .leaf (.seq .leaf .leaf)))
noncomputable def g135 (f : Nat) (r_b_z : Bool) (r_b_f : Bool) (r_b : List PV) (r_e : Int) (k : Res → Option Res) : Option Res := bif (!r_b_z || r_b_f) && true && byB r_b then bif (!r_b_z || r_b_f) && decide (0 ≤ numS 2 (RS.mk r_b r_e)) then bif allInt IntKind.u8 (outS (numS 2 (RS.mk r_b r_e)).toNat (stepS 2 (RS.mk r_b r_e))) && true then k (Res.mk (.sc (.string (ByteArray.mk (Array.mk (toBytes (!okS (numS 2 (RS.mk r_b r_e)).toNat (RS.mk (stepS 2 (RS.mk r_b r_e)).b (stepS 2 (RS.mk r_b r_e)).e) || r_b_z, outS (numS 2 (RS.mk r_b r_e)).toNat (stepS 2 (RS.mk r_b r_e))).snd))))) [.box false 186 (PV.st 186 [.ro 5 r_b_z r_b_f (stepS (numS 2 (RS.mk r_b r_e)).toNat (stepS 2 (RS.mk r_b r_e))).b, .sc (.int .i64 (stepS (numS 2 (RS.mk r_b r_e)).toNat (stepS 2 (RS.mk r_b r_e))).e)])] []) else none else none else none
theorem e135 (f : Nat) (r_b_z : Bool) (r_b_f : Bool) (r_b : List PV) (r_e : Int) (k : Res → Option Res) : evFn tau F135 Try.f135 (Try.f135.body.get!) an135 [.ro] 0 [.ptr 0 []] [.box false 186 (.st 186 [.ro 5 r_b_z r_b_f r_b, .sc (.int .i64 r_e)])] k = g135 f r_b_z r_b_f r_b r_e k := by kernel_rfl
theorem it135 (f : Nat) : items (Try.f135.body.get!) an135 = [] := by kernel_rfl
theorem ia135 (f : Nat) : ∀ q ∈ items (Try.f135.body.get!) an135, q.Ok tau Try.prog 1 := by
  rw [it135 f]; intro q hq; cases hq
theorem fo135 : Try.prog.funcs[135]? = some Try.f135 := by kernel_rfl
theorem bo135 : Try.f135.body = some (Try.f135.body.get!) := by kernel_rfl
theorem en135 : Enters Try.prog 135 := enters_of fo135 (by kernel_rfl) bo135
noncomputable def run135 : List PV → List Ent → (Res → Option Res) → Option Res
  | [.ptr 0 []], [.box false 186 (.st 186 [.ro 5 r_b_z r_b_f r_b, .sc (.int .i64 r_e)])], k => g135 0 r_b_z r_b_f r_b r_e k
  | _, _, _ => none
noncomputable def s135 : Sig := { own := [], run := run135 }
theorem ok135 : CallOk tau Try.prog 135 s135 := fn_ok tabOk F135_ok mixed fo135 bo135 an135 [.ro] 1 [] run135 (ia135 0) fun xs es k res hr => by
  unfold run135 at hr
  split at hr
  · exact ⟨rfl, 0, (e135 0 _ _ _ _  _).trans hr⟩
  · cases hr
end Go.Proofs.Ytcklhipdldpkhaa.Rx

-- FN (*code.Reader).Text
namespace Go.Proofs.Ytcklhipdldpkhaa.Rx
open Go
set_option linter.unusedVariables false
set_option linter.unusedSimpArgs false
set_option maxRecDepth 100000
noncomputable def run135' : List PV → List Ent → (Res → Option Res) → Option Res
  | [.ptr 0 []], [.box false 186 (.st 186 [.ro 5 z f b, .sc (.int .i64 e)])], k =>
    bif (!z || f) && byB b then k ⟨.sc (.string (txtV ⟨b, e⟩)), [rdP z f (txtS ⟨b, e⟩)], []⟩ else none
  | _, _, _ => none
noncomputable def s135' : Sig := { own := [], run := run135' }
theorem ok135' : CallOk tau Try.prog 135 s135' := ok135.of fun xs es k res hr => by
  change run135' xs es k = some res at hr
  unfold run135' at hr
  split at hr
  · rename_i z f b e
    obtain ⟨hc, hr⟩ := of_bif hr
    simp only [Bool.and_eq_true] at hc
    show g135 0 z f b e k = some res
    have hn := (numS_small (s := ⟨b, e⟩) hc.2 (n := 2) (by omega)).1
    have ho := (byB_iff.1 (byB_out (s := stepS0 2 ⟨b, e⟩) (byB_step (s := ⟨b, e⟩) hc.2 2) (numS0 2 ⟨b, e⟩).toNat)).1
    unfold g135
    simp only [numS_eq, stepS_eq, outS_eq]
    rw [bif_t (by rw [hc.1, hc.2]; rfl), bif_t (by rw [hc.1]; simpa using hn), bif_t (by rw [ho]; rfl)]
    rw [txtV_eq, txtS_eq] at hr
    exact hr
  · cases hr
end Go.Proofs.Ytcklhipdldpkhaa.Rx

namespace Go.Proofs.Ytcklhipdldpkhaa.Rx
open Go
set_option linter.unusedVariables false
set_option maxRecDepth 100000
set_option maxHeartbeats 0
noncomputable def F136r : Fns := F0
theorem F136r_ok : FnsOk tau Try.prog F136r := F0_ok
def an136r : An := (.seq .leaf (.seq (.seq .leaf (.cond (.seq .leaf .leaf) .leaf)) (.seq .leaf .leaf)))
noncomputable def g136r (f : Nat) (s_z : Bool) (s_f : Bool) (s : List PV) (k : Res → Option Res) : Option Res := bif s_z then k (Res.mk (.ro 29 true true []) [] []) else bif roomy (0 + s.length) 24 && true then k (Res.mk (.ro 29 false false (List.take (0 + s.length) s)) [] []) else none
theorem e136r (f : Nat) (s_z : Bool) (s_f : Bool) (s : List PV) (k : Res → Option Res) : evFn tau F136r Try.f136 (Try.f136.body.get!) an136r [.ro] 0 [.ro 29 s_z s_f s] [] k = g136r f s_z s_f s k := by kernel_rfl
theorem it136r (f : Nat) : items (Try.f136.body.get!) an136r = [] := by kernel_rfl
theorem ia136r (f : Nat) : ∀ q ∈ items (Try.f136.body.get!) an136r, q.Ok tau Try.prog 0 := by
  rw [it136r f]; intro q hq; cases hq
theorem fo136r : Try.prog.funcs[136]? = some Try.f136 := by kernel_rfl
theorem bo136r : Try.f136.body = some (Try.f136.body.get!) := by kernel_rfl
theorem en136r : Enters Try.prog 136 := enters_of fo136r (by kernel_rfl) bo136r
noncomputable def run136r : List PV → List Ent → (Res → Option Res) → Option Res
  | [.ro 29 s_z s_f s], [], k => g136r 0 s_z s_f s k
  | _, _, _ => none
noncomputable def s136r : Sig := { own := [], run := run136r }
theorem ok136r : CallOk tau Try.prog 136 s136r := fn_ok tabOk F136r_ok mixed fo136r bo136r an136r [.ro] 0 [] run136r (ia136r 0) fun xs es k res hr => by
  unfold run136r at hr
  split at hr
  · exact ⟨rfl, 0, (e136r 0 _ _ _  _).trans hr⟩
  · cases hr
end Go.Proofs.Ytcklhipdldpkhaa.Rx

namespace Go.Proofs.Ytcklhipdldpkhaa.Rx
open Go
set_option linter.unusedVariables false
set_option linter.unusedSimpArgs false
set_option maxRecDepth 100000
def run136' : List PV → List Ent → (Res → Option Res) → Option Res
  | [.ro 29 z f l], [], k => bif slB z l then k ⟨.ro 29 z z l, [], []⟩ else none
  | _, _, _ => none
def s136' : Sig := { own := [], run := run136' }
theorem ok136' : CallOk tau Try.prog 136 s136' := ok136r.of fun xs es k res hr => by
  change run136' xs es k = some res at hr
  unfold run136' at hr
  split at hr
  · rename_i z f l
    obtain ⟨hc, hr⟩ := of_bif hr
    obtain ⟨h1, h2⟩ := slB_iff.1 hc
    show g136r 0 z f l k = some res
    unfold g136r
    cases z with
    | true => obtain rfl := h1 rfl; exact hr
    | false =>
      rw [cond_false, bif_t (by simp [roomy]; omega), Nat.zero_add, List.take_length]
      exact hr
  · cases hr
end Go.Proofs.Ytcklhipdldpkhaa.Rx

namespace Go.Proofs.Ytcklhipdldpkhaa.Rx
open Go
set_option linter.unusedVariables false
set_option maxRecDepth 100000
set_option maxHeartbeats 0
def N77 : Nat := 58
noncomputable def F77 : Fns := addF 136 s136' (addF 135 s135' (addF 134 s134 (addF 133 s133 (addF 132 s132 (addF 93 s93 (F0))))))
theorem F77_ok : FnsOk tau Try.prog F77 := ((((((F0_ok).add ok93 en93).add ok132 en132).add ok133 en133).add ok134 en134).add ok135' en135).add ok136' en136r
def nm77_0 : Nm := [(0, .any), (2, .any), (3, .any), (4, .any), (14, .any), (15, .any), (16, .any)]
def x77_0 : An := (.seq .leaf (.seq (.cond .leaf .leaf) (.seq (.block none (.seq .leaf .leaf)) .leaf)))
noncomputable def c77_1 : Code := subC (Try.f77.body.get!) [1, 1, 1, 1, 1, 1, 0, 1, 0, 0]
def nm77_1 : Nm := [(0, .any), (2, .bx (.st [.any, .any, .any, .any, .any, .any, .any, .any, .any, .any, .own])), (3, .any), (31, .any), (32, .any)]
def nx77_1 : Nm := [(0, .any), (2, .any), (3, .any)]
def x77_1 : An := (.seq .leaf (.seq (.cond .leaf .leaf) (.seq (.block none .leaf) .leaf)))
noncomputable def c77_2 : Code := subC (Try.f77.body.get!) [1, 1, 1, 1, 1, 1, 1, 1, 0, 1, 0, 0]
def nm77_2 : Nm := [(0, .any), (2, .any), (3, .any), (47, .any)]
def nx77_2 : Nm := [(2, .any), (3, .any)]
def x77_2 : An := (.seq .leaf (.seq (.cond .leaf .leaf) (.seq (.block none (.seq .leaf .leaf)) .leaf)))
def an77 (r1 : RunL) (r2 : RunL) : An := (.seq .leaf (.seq .leaf (.seq .leaf (.seq (.seq .leaf (.block none (.loop nm77_0 x77_0))) (.seq .leaf (.seq (.seq .leaf (.cond (.seq .leaf .leaf) .leaf)) (.seq (.seq .leaf (.block none (.sum nm77_1 N77 r1))) (.seq .leaf (.seq (.seq .leaf (.block none (.sum nm77_2 N77 r2))) (.seq .leaf .leaf))))))))))
noncomputable def lpS77_1 (f : Nat) (rc : Int → Int → Bool → Bool → List PV → Int → Int → Int → Int → Int → Int → Int → Int → Int → Int → Int → Int → Int → Int → Nat → List PV → Bool → List PV → Option Res) (k0 : Bool → Bool → List PV → Int → Int → Int → Int → Int → Int → Int → Int → Int → Int → Int → Int → Int → Int → Nat → List PV → Bool → List PV → Option Res) (v0 : Int) (v1 : Int) (v2 : Bool) (v3 : Bool) (v4 : List PV) (v5 : Int) (v6 : Int) (v7 : Int) (v8 : Int) (v9 : Int) (v10 : Int) (v11 : Int) (v12 : Int) (v13 : Int) (v14 : Int) (v15 : Int) (v16 : Int) (v17 : Int) (v18 : Int) (v19 : Nat) (v20 : List PV) (v21 : Bool) (v22 : List PV) : Option Res := bif decide (v1 < v0) then bif (!v2 || v3) && byB v4 then bif roomy (txtV (RS.mk v4 v5)).size 1 && true then bif roomy (v19 + 1) 24 && true then rc v0 (IntKind.i64.wrap (v1 + 1)) v2 v3 ((txtS (RS.mk v4 v5)).b) ((txtS (RS.mk v4 v5)).e) v6 v7 v8 v9 v10 v11 v12 v13 v14 v15 v16 v17 v18 (v19 + 1) v20 (v21 && false) (List.take v19 v22 ++ [.ro 5 false false (List.take (txtV (RS.mk v4 v5)).size (ofBytes (txtV (RS.mk v4 v5))))]) else none else none else none else k0 v2 v3 v4 v5 v6 v7 v8 v9 v10 v11 v12 v13 v14 v15 v16 v17 v18 v19 v20 v21 v22
noncomputable def lp77_1 (f : Nat) (k0 : Bool → Bool → List
  PV → Int → Int → Int → Int → Int → Int → Int → Int → Int → Int → Int → Int → Int → Int → Nat → List
  PV → Bool → List
  PV → Option Res) : Nat → Int → Int → Bool → Bool → List PV → Int → Int → Int → Int → Int → Int → Int → Int → Int → Int → Int → Int → Int → Int → Nat → List PV → Bool → List PV → Option Res
  | 0, _, _, _, _, _, _, _, _, _, _, _, _, _, _, _, _, _, _, _, _, _, _, _ => none
  | n + 1, v0, v1, v2, v3, v4, v5, v6, v7, v8, v9, v10, v11, v12, v13, v14, v15, v16, v17, v18, v19, v20, v21, v22 => lpS77_1 f (lp77_1 f k0 n) k0 v0 v1 v2 v3 v4 v5 v6 v7 v8 v9 v10 v11 v12 v13 v14 v15 v16 v17 v18 v19 v20 v21 v22
theorem lpR77_1 (f : Nat) (k : Kont) (n : Nat) (v0 : Int) (v1 : Int) (v2 : Bool) (v3 : Bool) (v4 : List PV) (v5 : Int) (v6 : Int) (v7 : Int) (v8 : Int) (v9 : Int) (v10 : Int) (v11 : Int) (v12 : Int) (v13 : Int) (v14 : Int) (v15 : Int) (v16 : Int) (v17 : Int) (v18 : Int) (v19 : Nat) (v20 : List PV) (v21 : Bool) (v22 : List PV) : evLoop tau 1 nm77_1 (fun s k => ev tau F77 1 0 c77_1 (x77_1 ) s k) (n + 1) (fillS nm77_1 N77 [.ptr 0 [], .ptr 945 [], .ptr 946 [], .sc (.int .i64 v0), .sc (.int .i64 v1)] [(0, .box false 186 (PV.st 186 [.ro 5 v2 v3 v4, .sc (.int .i64 v5)])), (945, .box false 54 (PV.st 54 [.sc (.int .i64 v6), .sc (.int .i64 v7), .sc (.int .i64 v8), .st 34 [.sc (.int .i64 v9), .sc (.int .i64 v10)], .st 45 [.sc (.int .i64 v11), .sc (.int .i64 v12)], .sc (.int .i64 v13), .sc (.int .i64 v14), .st 45 [.sc (.int .i64 v15), .sc (.int .i64 v16)], .sc (.int .i64 v17), .sc (.int .i64 v18), .ow 29 947 [] 0 v19 none])), (946, .box false 37 (PV.ar 37 v20)), (947, .vec false 29 v21 v22)]) (kNorm tau 1 nx77_1 k) = lpS77_1 f (fun v0 v1 v2 v3 v4 v5 v6 v7 v8 v9 v10 v11 v12 v13 v14 v15 v16 v17 v18 v19 v20 v21 v22 => evLoop tau 1 nm77_1 (fun s k => ev tau F77 1 0 c77_1 (x77_1 ) s k) n (fillS nm77_1 N77 [.ptr 0 [], .ptr 945 [], .ptr 946 [], .sc (.int .i64 v0), .sc (.int .i64 v1)] [(0, .box false 186 (PV.st 186 [.ro 5 v2 v3 v4, .sc (.int .i64 v5)])), (945, .box false 54 (PV.st 54 [.sc (.int .i64 v6), .sc (.int .i64 v7), .sc (.int .i64 v8), .st 34 [.sc (.int .i64 v9), .sc (.int .i64 v10)], .st 45 [.sc (.int .i64 v11), .sc (.int .i64 v12)], .sc (.int .i64 v13), .sc (.int .i64 v14), .st 45 [.sc (.int .i64 v15), .sc (.int .i64 v16)], .sc (.int .i64 v17), .sc (.int .i64 v18), .ow 29 947 [] 0 v19 none])), (946, .box false 37 (PV.ar 37 v20)), (947, .vec false 29 v21 v22)]) (kNorm tau 1 nx77_1 k)) (fun x0 x1 x2 x3 x4 x5 x6 x7 x8 x9 x10 x11 x12 x13 x14 x15 x16 x17 x18 x19 x20 => k (Ex.exit 2) (fillS nx77_1 N77 [.ptr 0 [], .ptr 945 [], .ptr 946 []] [(0, .box false 186 (PV.st 186 [.ro 5 x0 x1 x2, .sc (.int .i64 x3)])), (945, .box false 54 (PV.st 54 [.sc (.int .i64 x4), .sc (.int .i64 x5), .sc (.int .i64 x6), .st 34 [.sc (.int .i64 x7), .sc (.int .i64 x8)], .st 45 [.sc (.int .i64 x9), .sc (.int .i64 x10)], .sc (.int .i64 x11), .sc (.int .i64 x12), .st 45 [.sc (.int .i64 x13), .sc (.int .i64 x14)], .sc (.int .i64 x15), .sc (.int .i64 x16), .ow 29 947 [] 0 x17 none])), (946, .box false 37 (PV.ar 37 x18)), (947, .vec false 29 x19 x20)])) v0 v1 v2 v3 v4 v5 v6 v7 v8 v9 v10 v11 v12 v13 v14 v15 v16 v17 v18 v19 v20 v21 v22 := by kernel_rfl
theorem lpE77_1 (f : Nat) (k : Kont) : ∀ (n : Nat) (v0 : Int) (v1 : Int) (v2 : Bool) (v3 : Bool) (v4 : List PV) (v5 : Int) (v6 : Int) (v7 : Int) (v8 : Int) (v9 : Int) (v10 : Int) (v11 : Int) (v12 : Int) (v13 : Int) (v14 : Int) (v15 : Int) (v16 : Int) (v17 : Int) (v18 : Int) (v19 : Nat) (v20 : List PV) (v21 : Bool) (v22 : List PV), evLoop tau 1 nm77_1 (fun s k => ev tau F77 1 0 c77_1 (x77_1 ) s k) n (fillS nm77_1 N77 [.ptr 0 [], .ptr 945 [], .ptr 946 [], .sc (.int .i64 v0), .sc (.int .i64 v1)] [(0, .box false 186 (PV.st 186 [.ro 5 v2 v3 v4, .sc (.int .i64 v5)])), (945, .box false 54 (PV.st 54 [.sc (.int .i64 v6), .sc (.int .i64 v7), .sc (.int .i64 v8), .st 34 [.sc (.int .i64 v9), .sc (.int .i64 v10)], .st 45 [.sc (.int .i64 v11), .sc (.int .i64 v12)], .sc (.int .i64 v13), .sc (.int .i64 v14), .st 45 [.sc (.int .i64 v15), .sc (.int .i64 v16)], .sc (.int .i64 v17), .sc (.int .i64 v18), .ow 29 947 [] 0 v19 none])), (946, .box false 37 (PV.ar 37 v20)), (947, .vec false 29 v21 v22)]) (kNorm tau 1 nx77_1 k) = lp77_1 f (fun x0 x1 x2 x3 x4 x5 x6 x7 x8 x9 x10 x11 x12 x13 x14 x15 x16 x17 x18 x19 x20 => k (Ex.exit 2) (fillS nx77_1 N77 [.ptr 0 [], .ptr 945 [], .ptr 946 []] [(0, .box false 186 (PV.st 186 [.ro 5 x0 x1 x2, .sc (.int .i64 x3)])), (945, .box false 54 (PV.st 54 [.sc (.int .i64 x4), .sc (.int .i64 x5), .sc (.int .i64 x6), .st 34 [.sc (.int .i64 x7), .sc (.int .i64 x8)], .st 45 [.sc (.int .i64 x9), .sc (.int .i64 x10)], .sc (.int .i64 x11), .sc (.int .i64 x12), .st 45 [.sc (.int .i64 x13), .sc (.int .i64 x14)], .sc (.int .i64 x15), .sc (.int .i64 x16), .ow 29 947 [] 0 x17 none])), (946, .box false 37 (PV.ar 37 x18)), (947, .vec false 29 x19 x20)])) n v0 v1 v2 v3 v4 v5 v6 v7 v8 v9 v10 v11 v12 v13 v14 v15 v16 v17 v18 v19 v20 v21 v22 | 0, _, _, _, _, _, _, _, _, _, _, _, _, _, _, _, _, _, _, _, _, _, _, _ => rfl | n + 1, v0, v1, v2, v3, v4, v5, v6, v7, v8, v9, v10, v11, v12, v13, v14, v15, v16, v17, v18, v19, v20, v21, v22 => (lpR77_1 f k n v0 v1 v2 v3 v4 v5 v6 v7 v8 v9 v10 v11 v12 v13 v14 v15 v16 v17 v18 v19 v20 v21 v22).trans (congrArg (fun r => lpS77_1 f r (fun x0 x1 x2 x3 x4 x5 x6 x7 x8 x9 x10 x11 x12 x13 x14 x15 x16 x17 x18 x19 x20 => k (Ex.exit 2) (fillS nx77_1 N77 [.ptr 0 [], .ptr 945 [], .ptr 946 []] [(0, .box false 186 (PV.st 186 [.ro 5 x0 x1 x2, .sc (.int .i64 x3)])), (945, .box false 54 (PV.st 54 [.sc (.int .i64 x4), .sc (.int .i64 x5), .sc (.int .i64 x6), .st 34 [.sc (.int .i64 x7), .sc (.int .i64 x8)], .st 45 [.sc (.int .i64 x9), .sc (.int .i64 x10)], .sc (.int .i64 x11), .sc (.int .i64 x12), .st 45 [.sc (.int .i64 x13), .sc (.int .i64 x14)], .sc (.int .i64 x15), .sc (.int .i64 x16), .ow 29 947 [] 0 x17 none])), (946, .box false 37 (PV.ar 37 x18)), (947, .vec false 29 x19 x20)])) v0 v1 v2 v3 v4 v5 v6 v7 v8 v9 v10 v11 v12 v13 v14 v15 v16 v17 v18 v19 v20 v21 v22) (by funext v0 v1 v2 v3 v4 v5 v6 v7 v8 v9 v10 v11 v12 v13 v14 v15 v16 v17 v18 v19 v20 v21 v22; exact lpE77_1 f k n v0 v1 v2 v3 v4 v5 v6 v7 v8 v9 v10 v11 v12 v13 v14 v15 v16 v17 v18 v19 v20 v21 v22))
noncomputable def r77_1 (f : Nat) : List PV → List (Nat × Ent) → Kont → Option Res
  | [.ptr 0 [], .ptr 945 [], .ptr 946 [], .sc (.int .i64 v0),
  PV.sc
    (Value.int IntKind.i64
      v1)], [(0, .box false 186 (PV.st 186 [.ro 5 v2 v3 v4, .sc (.int .i64 v5)])),
  (945,
    Ent.box false 54
      (PV.st 54
        [.sc (.int .i64 v6), .sc (.int .i64 v7), .sc (.int .i64 v8), .st 34 [.sc (.int .i64 v9), .sc (.int .i64 v10)],
          PV.st 45 [.sc (.int .i64 v11), .sc (.int .i64 v12)], .sc (.int .i64 v13), .sc (.int .i64 v14),
          PV.st 45 [.sc (.int .i64 v15), .sc (.int .i64 v16)], .sc (.int .i64 v17), .sc (.int .i64 v18), .ow 29 947 [] 0 v19 none])),
  (946, .box false 37 (PV.ar 37 v20)),
  (947,
    Ent.vec false 29 v21
      v22)], k => lp77_1 f (fun x0 x1 x2 x3 x4 x5 x6 x7 x8 x9 x10 x11 x12 x13 x14 x15 x16 x17 x18 x19 x20 => k (Ex.exit
  2) (fillS nx77_1 N77 [.ptr 0 [], .ptr 945 [],
  PV.ptr 946
    []] [(0, .box false 186 (PV.st 186 [.ro 5 x0 x1 x2, .sc (.int .i64 x3)])),
  (945,
    Ent.box false 54
      (PV.st 54
        [.sc (.int .i64 x4), .sc (.int .i64 x5), .sc (.int .i64 x6), .st 34 [.sc (.int .i64 x7), .sc (.int .i64 x8)],
          PV.st 45 [.sc (.int .i64 x9), .sc (.int .i64 x10)], .sc (.int .i64 x11), .sc (.int .i64 x12),
          PV.st 45 [.sc (.int .i64 x13), .sc (.int .i64 x14)], .sc (.int .i64 x15), .sc (.int .i64 x16), .ow 29 947 [] 0 x17 none])),
  (946, .box false 37 (PV.ar 37 x18)), (947, .vec false 29 x19 x20)])) f v0 v1 v2 v3 v4 v5 v6 v7 v8 v9 v10 v11 v12 v13 v14 v15 v16 v17 v18 v19 v20 v21 v22
  | _, _, _ => none
theorem it77_1 (f : Nat) : items c77_1 x77_1 = [] := by kernel_rfl
theorem i77_1 (f : Nat) : (Item.l c77_1 nm77_1 N77 (r77_1 f)).Ok tau Try.prog 1 := loop_item tabOk F77_ok mixed (x := x77_1) (nm2 := nx77_1) (anOk_items _ _ (by rw [it77_1 f]; intro q hq; cases hq)) fun vs hp k res hr => by
  unfold r77_1 at hr
  split at hr
  · exact ⟨f, 0, (lpE77_1 f _ f _ _ _ _ _ _ _ _ _ _ _ _ _ _ _ _ _ _ _ _ _ _ _ ).trans hr⟩
  · cases hr
noncomputable def lpS77_2 (f : Nat) (rc : Int → Bool → Bool → List PV → Int → Int → Int → Int → Int → Int → Int → Int → Int → Int → Int → Int → Int → Int → Bool → Bool → List PV → List PV → Option Res) (k0 : Bool → Bool → List PV → Int → Int → Int → Int → Int → Int → Int → Int → Int → Int → Int → Int → Int → Int → Bool → Bool → List PV → List PV → Option Res) (v0 : Int) (v1 : Bool) (v2 : Bool) (v3 : List PV) (v4 : Int) (v5 : Int) (v6 : Int) (v7 : Int) (v8 : Int) (v9 : Int) (v10 : Int) (v11 : Int) (v12 : Int) (v13 : Int) (v14 : Int) (v15 : Int) (v16 : Int) (v17 : Int) (v18 : Bool) (v19 : Bool) (v20 : List PV) (v21 : List PV) : Option Res := bif decide (v0 < 32) then bif (!v1 || v2) && true && byB v3 then bif decide (0 ≤ v0) && decide (v0 < zi 32) && true then rc (IntKind.i64.wrap (v0 + 1)) v1 v2 ((stepS 1 (RS.mk v3 v4)).b) ((stepS 1 (RS.mk v3 v4)).e) v5 v6 v7 v8 v9 v10 v11 v12 v13 v14 v15 v16 v17 v18 v19 v20 (v21.set v0.toNat (.sc (.int .u8 (IntKind.u8.wrap (numS 1 (RS.mk v3 v4)))))) else none else none else k0 v1 v2 v3 v4 v5 v6 v7 v8 v9 v10 v11 v12 v13 v14 v15 v16 v17 v18 v19 v20 v21
noncomputable def lp77_2 (f : Nat) (k0 : Bool → Bool → List
  PV → Int → Int → Int → Int → Int → Int → Int → Int → Int → Int → Int → Int → Int → Int → Bool → Bool → List
  PV → List PV → Option Res) : Nat → Int → Bool → Bool → List PV → Int → Int → Int → Int → Int → Int → Int → Int → Int → Int → Int → Int → Int → Int → Bool → Bool → List PV → List PV → Option Res
  | 0, _, _, _, _, _, _, _, _, _, _, _, _, _, _, _, _, _, _, _, _, _, _ => none
  | n + 1, v0, v1, v2, v3, v4, v5, v6, v7, v8, v9, v10, v11, v12, v13, v14, v15, v16, v17, v18, v19, v20, v21 => lpS77_2 f (lp77_2 f k0 n) k0 v0 v1 v2 v3 v4 v5 v6 v7 v8 v9 v10 v11 v12 v13 v14 v15 v16 v17 v18 v19 v20 v21
theorem lpR77_2 (f : Nat) (k : Kont) (n : Nat) (v0 : Int) (v1 : Bool) (v2 : Bool) (v3 : List PV) (v4 : Int) (v5 : Int) (v6 : Int) (v7 : Int) (v8 : Int) (v9 : Int) (v10 : Int) (v11 : Int) (v12 : Int) (v13 : Int) (v14 : Int) (v15 : Int) (v16 : Int) (v17 : Int) (v18 : Bool) (v19 : Bool) (v20 : List PV) (v21 : List PV) : evLoop tau 1 nm77_2 (fun s k => ev tau F77 1 0 c77_2 (x77_2 ) s k) (n + 1) (fillS nm77_2 N77 [.ptr 0 [], .ptr 945 [], .ptr 946 [], .sc (.int .i64 v0)] [(0, .box false 186 (PV.st 186 [.ro 5 v1 v2 v3, .sc (.int .i64 v4)])), (945, .box false 54 (PV.st 54 [.sc (.int .i64 v5), .sc (.int .i64 v6), .sc (.int .i64 v7), .st 34 [.sc (.int .i64 v8), .sc (.int .i64 v9)], .st 45 [.sc (.int .i64 v10), .sc (.int .i64 v11)], .sc (.int .i64 v12), .sc (.int .i64 v13), .st 45 [.sc (.int .i64 v14), .sc (.int .i64 v15)], .sc (.int .i64 v16), .sc (.int .i64 v17), .ro 29 v18 v19 v20])), (946, .box false 37 (PV.ar 37 v21))]) (kNorm tau 1 nx77_2 k) = lpS77_2 f (fun v0 v1 v2 v3 v4 v5 v6 v7 v8 v9 v10 v11 v12 v13 v14 v15 v16 v17 v18 v19 v20 v21 => evLoop tau 1 nm77_2 (fun s k => ev tau F77 1 0 c77_2 (x77_2 ) s k) n (fillS nm77_2 N77 [.ptr 0 [], .ptr 945 [], .ptr 946 [], .sc (.int .i64 v0)] [(0, .box false 186 (PV.st 186 [.ro 5 v1 v2 v3, .sc (.int .i64 v4)])), (945, .box false 54 (PV.st 54 [.sc (.int .i64 v5), .sc (.int .i64 v6), .sc (.int .i64 v7), .st 34 [.sc (.int .i64 v8), .sc (.int .i64 v9)], .st 45 [.sc (.int .i64 v10), .sc (.int .i64 v11)], .sc (.int .i64 v12), .sc (.int .i64 v13), .st 45 [.sc (.int .i64 v14), .sc (.int .i64 v15)], .sc (.int .i64 v16), .sc (.int .i64 v17), .ro 29 v18 v19 v20])), (946, .box false 37 (PV.ar 37 v21))]) (kNorm tau 1 nx77_2 k)) (fun x0 x1 x2 x3 x4 x5 x6 x7 x8 x9 x10 x11 x12 x13 x14 x15 x16 x17 x18 x19 x20 => k (Ex.exit 4) (fillS nx77_2 N77 [.ptr 945 [], .ptr 946 []] [(0, .box false 186 (PV.st 186 [.ro 5 x0 x1 x2, .sc (.int .i64 x3)])), (945, .box false 54 (PV.st 54 [.sc (.int .i64 x4), .sc (.int .i64 x5), .sc (.int .i64 x6), .st 34 [.sc (.int .i64 x7), .sc (.int .i64 x8)], .st 45 [.sc (.int .i64 x9), .sc (.int .i64 x10)], .sc (.int .i64 x11), .sc (.int .i64 x12), .st 45 [.sc (.int .i64 x13), .sc (.int .i64 x14)], .sc (.int .i64 x15), .sc (.int .i64 x16), .ro 29 x17 x18 x19])), (946, .box false 37 (PV.ar 37 x20))])) v0 v1 v2 v3 v4 v5 v6 v7 v8 v9 v10 v11 v12 v13 v14 v15 v16 v17 v18 v19 v20 v21 := by kernel_rfl
theorem lpE77_2 (f : Nat) (k : Kont) : ∀ (n : Nat) (v0 : Int) (v1 : Bool) (v2 : Bool) (v3 : List PV) (v4 : Int) (v5 : Int) (v6 : Int) (v7 : Int) (v8 : Int) (v9 : Int) (v10 : Int) (v11 : Int) (v12 : Int) (v13 : Int) (v14 : Int) (v15 : Int) (v16 : Int) (v17 : Int) (v18 : Bool) (v19 : Bool) (v20 : List PV) (v21 : List PV), evLoop tau 1 nm77_2 (fun s k => ev tau F77 1 0 c77_2 (x77_2 ) s k) n (fillS nm77_2 N77 [.ptr 0 [], .ptr 945 [], .ptr 946 [], .sc (.int .i64 v0)] [(0, .box false 186 (PV.st 186 [.ro 5 v1 v2 v3, .sc (.int .i64 v4)])), (945, .box false 54 (PV.st 54 [.sc (.int .i64 v5), .sc (.int .i64 v6), .sc (.int .i64 v7), .st 34 [.sc (.int .i64 v8), .sc (.int .i64 v9)], .st 45 [.sc (.int .i64 v10), .sc (.int .i64 v11)], .sc (.int .i64 v12), .sc (.int .i64 v13), .st 45 [.sc (.int .i64 v14), .sc (.int .i64 v15)], .sc (.int .i64 v16), .sc (.int .i64 v17), .ro 29 v18 v19 v20])), (946, .box false 37 (PV.ar 37 v21))]) (kNorm tau 1 nx77_2 k) = lp77_2 f (fun x0 x1 x2 x3 x4 x5 x6 x7 x8 x9 x10 x11 x12 x13 x14 x15 x16 x17 x18 x19 x20 => k (Ex.exit 4) (fillS nx77_2 N77 [.ptr 945 [], .ptr 946 []] [(0, .box false 186 (PV.st 186 [.ro 5 x0 x1 x2, .sc (.int .i64 x3)])), (945, .box false 54 (PV.st 54 [.sc (.int .i64 x4), .sc (.int .i64 x5), .sc (.int .i64 x6), .st 34 [.sc (.int .i64 x7), .sc (.int .i64 x8)], .st 45 [.sc (.int .i64 x9), .sc (.int .i64 x10)], .sc (.int .i64 x11), .sc (.int .i64 x12), .st 45 [.sc (.int .i64 x13), .sc (.int .i64 x14)], .sc (.int .i64 x15), .sc (.int .i64 x16), .ro 29 x17 x18 x19])), (946, .box false 37 (PV.ar 37 x20))])) n v0 v1 v2 v3 v4 v5 v6 v7 v8 v9 v10 v11 v12 v13 v14 v15 v16 v17 v18 v19 v20 v21 | 0, _, _, _, _, _, _, _, _, _, _, _, _, _, _, _, _, _, _, _, _, _, _ => rfl | n + 1, v0, v1, v2, v3, v4, v5, v6, v7, v8, v9, v10, v11, v12, v13, v14, v15, v16, v17, v18, v19, v20, v21 => (lpR77_2 f k n v0 v1 v2 v3 v4 v5 v6 v7 v8 v9 v10 v11 v12 v13 v14 v15 v16 v17 v18 v19 v20 v21).trans (congrArg (fun r => lpS77_2 f r (fun x0 x1 x2 x3 x4 x5 x6 x7 x8 x9 x10 x11 x12 x13 x14 x15 x16 x17 x18 x19 x20 => k (Ex.exit 4) (fillS nx77_2 N77 [.ptr 945 [], .ptr 946 []] [(0, .box false 186 (PV.st 186 [.ro 5 x0 x1 x2, .sc (.int .i64 x3)])), (945, .box false 54 (PV.st 54 [.sc (.int .i64 x4), .sc (.int .i64 x5), .sc (.int .i64 x6), .st 34 [.sc (.int .i64 x7), .sc (.int .i64 x8)], .st 45 [.sc (.int .i64 x9), .sc (.int .i64 x10)], .sc (.int .i64 x11), .sc (.int .i64 x12), .st 45 [.sc (.int .i64 x13), .sc (.int .i64 x14)], .sc (.int .i64 x15), .sc (.int .i64 x16), .ro 29 x17 x18 x19])), (946, .box false 37 (PV.ar 37 x20))])) v0 v1 v2 v3 v4 v5 v6 v7 v8 v9 v10 v11 v12 v13 v14 v15 v16 v17 v18 v19 v20 v21) (by funext v0 v1 v2 v3 v4 v5 v6 v7 v8 v9 v10 v11 v12 v13 v14 v15 v16 v17 v18 v19 v20 v21; exact lpE77_2 f k n v0 v1 v2 v3 v4 v5 v6 v7 v8 v9 v10 v11 v12 v13 v14 v15 v16 v17 v18 v19 v20 v21))
noncomputable def r77_2 (f : Nat) : List PV → List (Nat × Ent) → Kont → Option Res
  | [.ptr 0 [], .ptr 945 [], .ptr 946 [],
  PV.sc
    (Value.int IntKind.i64
      v0)], [(0, .box false 186 (PV.st 186 [.ro 5 v1 v2 v3, .sc (.int .i64 v4)])),
  (945,
    Ent.box false 54
      (PV.st 54
        [.sc (.int .i64 v5), .sc (.int .i64 v6), .sc (.int .i64 v7), .st 34 [.sc (.int .i64 v8), .sc (.int .i64 v9)],
          PV.st 45 [.sc (.int .i64 v10), .sc (.int .i64 v11)], .sc (.int .i64 v12), .sc (.int .i64 v13),
          PV.st 45 [.sc (.int .i64 v14), .sc (.int .i64 v15)], .sc (.int .i64 v16), .sc (.int .i64 v17), .ro 29 v18 v19 v20])),
  (946,
    Ent.box false 37
      (PV.ar 37
        v21))], k => lp77_2 f (fun x0 x1 x2 x3 x4 x5 x6 x7 x8 x9 x10 x11 x12 x13 x14 x15 x16 x17 x18 x19 x20 => k (Ex.exit
  4) (fillS nx77_2 N77 [.ptr 945 [],
  PV.ptr 946
    []] [(0, .box false 186 (PV.st 186 [.ro 5 x0 x1 x2, .sc (.int .i64 x3)])),
  (945,
    Ent.box false 54
      (PV.st 54
        [.sc (.int .i64 x4), .sc (.int .i64 x5), .sc (.int .i64 x6), .st 34 [.sc (.int .i64 x7), .sc (.int .i64 x8)],
          PV.st 45 [.sc (.int .i64 x9), .sc (.int .i64 x10)], .sc (.int .i64 x11), .sc (.int .i64 x12),
          PV.st 45 [.sc (.int .i64 x13), .sc (.int .i64 x14)], .sc (.int .i64 x15), .sc (.int .i64 x16), .ro 29 x17 x18 x19])),
  (946, .box false 37 (PV.ar 37 x20))])) f v0 v1 v2 v3 v4 v5 v6 v7 v8 v9 v10 v11 v12 v13 v14 v15 v16 v17 v18 v19 v20 v21
  | _, _, _ => none
theorem it77_2 (f : Nat) : items c77_2 x77_2 = [] := by kernel_rfl
theorem i77_2 (f : Nat) : (Item.l c77_2 nm77_2 N77 (r77_2 f)).Ok tau Try.prog 1 := loop_item tabOk F77_ok mixed (x := x77_2) (nm2 := nx77_2) (anOk_items _ _ (by rw [it77_2 f]; intro q hq; cases hq)) fun vs hp k res hr => by
  unfold r77_2 at hr
  split at hr
  · exact ⟨f, 0, (lpE77_2 f _ f _ _ _ _ _ _ _ _ _ _ _ _ _ _ _ _ _ _ _ _ _ _ ).trans hr⟩
  · cases hr
noncomputable def g77 (f : Nat) (r_b_z : Bool) (r_b_f : Bool) (r_b : List PV) (r_e : Int) (k : Res → Option Res) : Option Res := bif (!r_b_z || r_b_f) && true && byB r_b then bif (!r_b_z || r_b_f) && true && byB (stepS 1 (RS.mk r_b r_e)).b then bif (!r_b_z || r_b_f) && true && byB (stepS 8 (stepS 1 (RS.mk r_b r_e))).b then bif (!r_b_z || r_b_f) && true && byB (stepS 8 (stepS 8 (stepS 1 (RS.mk r_b r_e)))).b then bif (!r_b_z || r_b_f) && true && byB (stepS 8 (stepS 8 (stepS 8 (stepS 1 (RS.mk r_b r_e))))).b then bif (!r_b_z || r_b_f) && true && byB (stepS 8 (stepS 8 (stepS 8 (stepS 8 (stepS 1 (RS.mk r_b r_e)))))).b then bif (!r_b_z || r_b_f) && true && byB (stepS 8 (stepS 8 (stepS 8 (stepS 8 (stepS 8 (stepS 1 (RS.mk r_b r_e))))))).b then bif (!r_b_z || r_b_f) && true && byB (stepS 8 (stepS 8 (stepS 8 (stepS 8 (stepS 8 (stepS 8 (stepS 1 (RS.mk r_b r_e)))))))).b then bif (!r_b_z || r_b_f) && true && byB (stepS 8 (stepS 8 (stepS 8 (stepS 8 (stepS 8 (stepS 8 (stepS 8 (stepS 1 (RS.mk r_b r_e))))))))).b then bif (!r_b_z || r_b_f) && true && byB (stepS 8 (stepS 8 (stepS 8 (stepS 8 (stepS 8 (stepS 8 (stepS 8 (stepS 8 (stepS 1 (RS.mk r_b r_e)))))))))).b then bif (!r_b_z || r_b_f) && true && byB (stepS 8 (stepS 8 (stepS 8 (stepS 8 (stepS 8 (stepS 8 (stepS 8 (stepS 8 (stepS 8 (stepS 1 (RS.mk r_b r_e))))))))))).b then bif (!r_b_z || r_b_f) && true && byB (stepS 8 (stepS 8 (stepS 8 (stepS 8 (stepS 8 (stepS 8 (stepS 8 (stepS 8 (stepS 8 (stepS 8 (stepS 1 (RS.mk r_b r_e)))))))))))).b then bif (!r_b_z || r_b_f) && true && byB (stepS 8 (stepS 8 (stepS 8 (stepS 8 (stepS 8 (stepS 8 (stepS 8 (stepS 8 (stepS 8 (stepS 8 (stepS 8 (stepS 1 (RS.mk r_b r_e))))))))))))).b then bif (!r_b_z || r_b_f) && true && byB (stepS 8 (stepS 8 (stepS 8 (stepS 8 (stepS 8 (stepS 8 (stepS 8 (stepS 8 (stepS 8 (stepS 8 (stepS 8 (stepS 8 (stepS 1 (RS.mk r_b r_e)))))))))))))).b then bif decide (numS 1 (stepS 8 (stepS 8 (stepS 8 (stepS 8 (stepS 8 (stepS 8 (stepS 8 (stepS 8 (stepS 8 (stepS 8 (stepS 8 (stepS 8 (stepS 1 (RS.mk r_b r_e)))))))))))))) > 4) then bif (stepS 1 (stepS 8 (stepS 8 (stepS 8 (stepS 8 (stepS 8 (stepS 8 (stepS 8 (stepS 8 (stepS 8 (stepS 8 (stepS 8 (stepS 8 (stepS 1 (RS.mk r_b r_e))))))))))))))).e == 0 then lp77_1 f (fun x0_0 x1_0 x2_0 x3_0 x4_0 x5_0 x6_0 x7_0 x8_0 x9_0 x10_0 x11_0 x12_0 x13_0 x14_0 x15_0 x16_0 x17_0 x18_0 x19_0 x20_0 => bif slB (Ent.vec false 29 x19_0 x20_0).nil (List.take x17_0 (List.drop 0 x20_0)) then lp77_2 f (fun x0_1 x1_1 x2_1 x3_1 x4_1 x5_1 x6_1 x7_1 x8_1 x9_1 x10_1 x11_1 x12_1 x13_1 x14_1 x15_1 x16_1 x17_1 x18_1 x19_1 x20_1 => k (Res.mk (.tup [.st 54 [.sc (.int .i64 x4_1), .sc (.int .i64 x5_1), .sc (.int .i64 x6_1), .st 34 [.sc (.int .i64 x7_1), .sc (.int .i64 x8_1)], .st 45 [.sc (.int .i64 x9_1), .sc (.int .i64 x10_1)], .sc (.int .i64 x11_1), .sc (.int .i64 x12_1), .st 45 [.sc (.int .i64 x13_1), .sc (.int .i64 x14_1)], .sc (.int .i64 x15_1), .sc (.int .i64 x16_1), .ro 29 x17_1 x18_1 x19_1], .ar 37 x20_1]) [.box false 186 (PV.st 186 [.ro 5 x0_1 x1_1 x2_1, .sc (.int .i64 x3_1)])] [])) f (0) x0_0 x1_0 x2_0 x3_0 x4_0 x5_0 x6_0 x7_0 x8_0 x9_0 x10_0 x11_0 x12_0 x13_0 x14_0 x15_0 x16_0 ((Ent.vec false 29 x19_0 x20_0).nil) ((Ent.vec false 29 x19_0 x20_0).nil) (List.take x17_0 x20_0) x18_0 else none) f (0) (0) r_b_z r_b_f ((stepS 1 (stepS 8 (stepS 8 (stepS 8 (stepS 8 (stepS 8 (stepS 8 (stepS 8 (stepS 8 (stepS 8 (stepS 8 (stepS 8 (stepS 8 (stepS 1 (RS.mk r_b r_e))))))))))))))).b) (4) (numS 1 (RS.mk r_b r_e)) (numS 8 (stepS 1 (RS.mk r_b r_e))) (numS 8 (stepS 8 (stepS 1 (RS.mk r_b r_e)))) (numS 8 (stepS 8 (stepS 8 (stepS 1 (RS.mk r_b r_e))))) (numS 8 (stepS 8 (stepS 8 (stepS 8 (stepS 1 (RS.mk r_b r_e)))))) (numS 8 (stepS 8 (stepS 8 (stepS 8 (stepS 8 (stepS 1 (RS.mk r_b r_e))))))) (numS 8 (stepS 8 (stepS 8 (stepS 8 (stepS 8 (stepS 8 (stepS 1 (RS.mk r_b r_e)))))))) (numS 8 (stepS 8 (stepS 8 (stepS 8 (stepS 8 (stepS 8 (stepS 8 (stepS 1 (RS.mk r_b r_e))))))))) (numS 8 (stepS 8 (stepS 8 (stepS 8 (stepS 8 (stepS 8 (stepS 8 (stepS 8 (stepS 1 (RS.mk r_b r_e)))))))))) (numS 8 (stepS 8 (stepS 8 (stepS 8 (stepS 8 (stepS 8 (stepS 8 (stepS 8 (stepS 8 (stepS 1 (RS.mk r_b r_e))))))))))) (numS 8 (stepS 8 (stepS 8 (stepS 8 (stepS 8 (stepS 8 (stepS 8 (stepS 8 (stepS 8 (stepS 8 (stepS 1 (RS.mk r_b r_e)))))))))))) (numS 8 (stepS 8 (stepS 8 (stepS 8 (stepS 8 (stepS 8 (stepS 8 (stepS 8 (stepS 8 (stepS 8 (stepS 8 (stepS 1 (RS.mk r_b r_e))))))))))))) (numS 8 (stepS 8 (stepS 8 (stepS 8 (stepS 8 (stepS 8 (stepS 8 (stepS 8 (stepS 8 (stepS 8 (stepS 8 (stepS 8 (stepS 1 (RS.mk r_b r_e)))))))))))))) (0) ([.sc (.int .u8 0), .sc (.int .u8 0), .sc (.int .u8 0), .sc (.int .u8 0), .sc (.int .u8 0), .sc (.int .u8 0), .sc (.int .u8 0), .sc (.int .u8 0), .sc (.int .u8 0), .sc (.int .u8 0), .sc (.int .u8 0), .sc (.int .u8 0), .sc (.int .u8 0), .sc (.int .u8 0), .sc (.int .u8 0), .sc (.int .u8 0), .sc (.int .u8 0), .sc (.int .u8 0), .sc (.int .u8 0), .sc (.int .u8 0), .sc (.int .u8 0), .sc (.int .u8 0), .sc (.int .u8 0), .sc (.int .u8 0), .sc (.int .u8 0), .sc (.int .u8 0), .sc (.int .u8 0), .sc (.int .u8 0), .sc (.int .u8 0), .sc (.int .u8 0), .sc (.int .u8 0), .sc (.int .u8 0)]) true ([]) else lp77_1 f (fun x0_2 x1_2 x2_2 x3_2 x4_2 x5_2 x6_2 x7_2 x8_2 x9_2 x10_2 x11_2 x12_2 x13_2 x14_2 x15_2 x16_2 x17_2 x18_2 x19_2 x20_2 => bif slB (Ent.vec false 29 x19_2 x20_2).nil (List.take x17_2 (List.drop 0 x20_2)) then lp77_2 f (fun x0_3 x1_3 x2_3 x3_3 x4_3 x5_3 x6_3 x7_3 x8_3 x9_3 x10_3 x11_3 x12_3 x13_3 x14_3 x15_3 x16_3 x17_3 x18_3 x19_3 x20_3 => k (Res.mk (.tup [.st 54 [.sc (.int .i64 x4_3), .sc (.int .i64 x5_3), .sc (.int .i64 x6_3), .st 34 [.sc (.int .i64 x7_3), .sc (.int .i64 x8_3)], .st 45 [.sc (.int .i64 x9_3), .sc (.int .i64 x10_3)], .sc (.int .i64 x11_3), .sc (.int .i64 x12_3), .st 45 [.sc (.int .i64 x13_3), .sc (.int .i64 x14_3)], .sc (.int .i64 x15_3), .sc (.int .i64 x16_3), .ro 29 x17_3 x18_3 x19_3], .ar 37 x20_3]) [.box false 186 (PV.st 186 [.ro 5 x0_3 x1_3 x2_3, .sc (.int .i64 x3_3)])] [])) f (0) x0_2 x1_2 x2_2 x3_2 x4_2 x5_2 x6_2 x7_2 x8_2 x9_2 x10_2 x11_2 x12_2 x13_2 x14_2 x15_2 x16_2 ((Ent.vec false 29 x19_2 x20_2).nil) ((Ent.vec false 29 x19_2 x20_2).nil) (List.take x17_2 x20_2) x18_2 else none) f (0) (0) r_b_z r_b_f ((stepS 1 (stepS 8 (stepS 8 (stepS 8 (stepS 8 (stepS 8 (stepS 8 (stepS 8 (stepS 8 (stepS 8 (stepS 8 (stepS 8 (stepS 8 (stepS 1 (RS.mk r_b r_e))))))))))))))).b) ((stepS 1 (stepS 8 (stepS 8 (stepS 8 (stepS 8 (stepS 8 (stepS 8 (stepS 8 (stepS 8 (stepS 8 (stepS 8 (stepS 8 (stepS 8 (stepS 1 (RS.mk r_b r_e))))))))))))))).e) (numS 1 (RS.mk r_b r_e)) (numS 8 (stepS 1 (RS.mk r_b r_e))) (numS 8 (stepS 8 (stepS 1 (RS.mk r_b r_e)))) (numS 8 (stepS 8 (stepS 8 (stepS 1 (RS.mk r_b r_e))))) (numS 8 (stepS 8 (stepS 8 (stepS 8 (stepS 1 (RS.mk r_b r_e)))))) (numS 8 (stepS 8 (stepS 8 (stepS 8 (stepS 8 (stepS 1 (RS.mk r_b r_e))))))) (numS 8 (stepS 8 (stepS 8 (stepS 8 (stepS 8 (stepS 8 (stepS 1 (RS.mk r_b r_e)))))))) (numS 8 (stepS 8 (stepS 8 (stepS 8 (stepS 8 (stepS 8 (stepS 8 (stepS 1 (RS.mk r_b r_e))))))))) (numS 8 (stepS 8 (stepS 8 (stepS 8 (stepS 8 (stepS 8 (stepS 8 (stepS 8 (stepS 1 (RS.mk r_b r_e)))))))))) (numS 8 (stepS 8 (stepS 8 (stepS 8 (stepS 8 (stepS 8 (stepS 8 (stepS 8 (stepS 8 (stepS 1 (RS.mk r_b r_e))))))))))) (numS 8 (stepS 8 (stepS 8 (stepS 8 (stepS 8 (stepS 8 (stepS 8 (stepS 8 (stepS 8 (stepS 8 (stepS 1 (RS.mk r_b r_e)))))))))))) (numS 8 (stepS 8 (stepS 8 (stepS 8 (stepS 8 (stepS 8 (stepS 8 (stepS 8 (stepS 8 (stepS 8 (stepS 8 (stepS 1 (RS.mk r_b r_e))))))))))))) (numS 8 (stepS 8 (stepS 8 (stepS 8 (stepS 8 (stepS 8 (stepS 8 (stepS 8 (stepS 8 (stepS 8 (stepS 8 (stepS 8 (stepS 1 (RS.mk r_b r_e)))))))))))))) (0) ([.sc (.int .u8 0), .sc (.int .u8 0), .sc (.int .u8 0), .sc (.int .u8 0), .sc (.int .u8 0), .sc (.int .u8 0), .sc (.int .u8 0), .sc (.int .u8 0), .sc (.int .u8 0), .sc (.int .u8 0), .sc (.int .u8 0), .sc (.int .u8 0), .sc (.int .u8 0), .sc (.int .u8 0), .sc (.int .u8 0), .sc (.int .u8 0), .sc (.int .u8 0), .sc (.int .u8 0), .sc (.int .u8 0), .sc (.int .u8 0), .sc (.int .u8 0), .sc (.int .u8 0), .sc (.int .u8 0), .sc (.int .u8 0), .sc (.int .u8 0), .sc (.int .u8 0), .sc (.int .u8 0), .sc (.int .u8 0), .sc (.int .u8 0), .sc (.int .u8 0), .sc (.int .u8 0), .sc (.int .u8 0)]) true ([]) else lp77_1 f (fun x0_4 x1_4 x2_4 x3_4 x4_4 x5_4 x6_4 x7_4 x8_4 x9_4 x10_4 x11_4 x12_4 x13_4 x14_4 x15_4 x16_4 x17_4 x18_4 x19_4 x20_4 => bif slB (Ent.vec false 29 x19_4 x20_4).nil (List.take x17_4 (List.drop 0 x20_4)) then lp77_2 f (fun x0_5 x1_5 x2_5 x3_5 x4_5 x5_5 x6_5 x7_5 x8_5 x9_5 x10_5 x11_5 x12_5 x13_5 x14_5 x15_5 x16_5 x17_5 x18_5 x19_5 x20_5 => k (Res.mk (.tup [.st 54 [.sc (.int .i64 x4_5), .sc (.int .i64 x5_5), .sc (.int .i64 x6_5), .st 34 [.sc (.int .i64 x7_5), .sc (.int .i64 x8_5)], .st 45 [.sc (.int .i64 x9_5), .sc (.int .i64 x10_5)], .sc (.int .i64 x11_5), .sc (.int .i64 x12_5), .st 45 [.sc (.int .i64 x13_5), .sc (.int .i64 x14_5)], .sc (.int .i64 x15_5), .sc (.int .i64 x16_5), .ro 29 x17_5 x18_5 x19_5], .ar 37 x20_5]) [.box false 186 (PV.st 186 [.ro 5 x0_5 x1_5 x2_5, .sc (.int .i64 x3_5)])] [])) f (0) x0_4 x1_4 x2_4 x3_4 x4_4 x5_4 x6_4 x7_4 x8_4 x9_4 x10_4 x11_4 x12_4 x13_4 x14_4 x15_4 x16_4 ((Ent.vec false 29 x19_4 x20_4).nil) ((Ent.vec false 29 x19_4 x20_4).nil) (List.take x17_4 x20_4) x18_4 else none) f (numS 1 (stepS 8 (stepS 8 (stepS 8 (stepS 8 (stepS 8 (stepS 8 (stepS 8 (stepS 8 (stepS 8 (stepS 8 (stepS 8 (stepS 8 (stepS 1 (RS.mk r_b r_e))))))))))))))) (0) r_b_z r_b_f ((stepS 1 (stepS 8 (stepS 8 (stepS 8 (stepS 8 (stepS 8 (stepS 8 (stepS 8 (stepS 8 (stepS 8 (stepS 8 (stepS 8 (stepS 8 (stepS 1 (RS.mk r_b r_e))))))))))))))).b) ((stepS 1 (stepS 8 (stepS 8 (stepS 8 (stepS 8 (stepS 8 (stepS 8 (stepS 8 (stepS 8 (stepS 8 (stepS 8 (stepS 8 (stepS 8 (stepS 1 (RS.mk r_b r_e))))))))))))))).e) (numS 1 (RS.mk r_b r_e)) (numS 8 (stepS 1 (RS.mk r_b r_e))) (numS 8 (stepS 8 (stepS 1 (RS.mk r_b r_e)))) (numS 8 (stepS 8 (stepS 8 (stepS 1 (RS.mk r_b r_e))))) (numS 8 (stepS 8 (stepS 8 (stepS 8 (stepS 1 (RS.mk r_b r_e)))))) (numS 8 (stepS 8 (stepS 8 (stepS 8 (stepS 8 (stepS 1 (RS.mk r_b r_e))))))) (numS 8 (stepS 8 (stepS 8 (stepS 8 (stepS 8 (stepS 8 (stepS 1 (RS.mk r_b r_e)))))))) (numS 8 (stepS 8 (stepS 8 (stepS 8 (stepS 8 (stepS 8 (stepS 8 (stepS 1 (RS.mk r_b r_e))))))))) (numS 8 (stepS 8 (stepS 8 (stepS 8 (stepS 8 (stepS 8 (stepS 8 (stepS 8 (stepS 1 (RS.mk r_b r_e)))))))))) (numS 8 (stepS 8 (stepS 8 (stepS 8 (stepS 8 (stepS 8 (stepS 8 (stepS 8 (stepS 8 (stepS 1 (RS.mk r_b r_e))))))))))) (numS 8 (stepS 8 (stepS 8 (stepS 8 (stepS 8 (stepS 8 (stepS 8 (stepS 8 (stepS 8 (stepS 8 (stepS 1 (RS.mk r_b r_e)))))))))))) (numS 8 (stepS 8 (stepS 8 (stepS 8 (stepS 8 (stepS 8 (stepS 8 (stepS 8 (stepS 8 (stepS 8 (stepS 8 (stepS 1 (RS.mk r_b r_e))))))))))))) (numS 8 (stepS 8 (stepS 8 (stepS 8 (stepS 8 (stepS 8 (stepS 8 (stepS 8 (stepS 8 (stepS 8 (stepS 8 (stepS 8 (stepS 1 (RS.mk r_b r_e)))))))))))))) (0) ([.sc (.int .u8 0), .sc (.int .u8 0), .sc (.int .u8 0), .sc (.int .u8 0), .sc (.int .u8 0), .sc (.int .u8 0), .sc (.int .u8 0), .sc (.int .u8 0), .sc (.int .u8 0), .sc (.int .u8 0), .sc (.int .u8 0), .sc (.int .u8 0), .sc (.int .u8 0), .sc (.int .u8 0), .sc (.int .u8 0), .sc (.int .u8 0), .sc (.int .u8 0), .sc (.int .u8 0), .sc (.int .u8 0), .sc (.int .u8 0), .sc (.int .u8 0), .sc (.int .u8 0), .sc (.int .u8 0), .sc (.int .u8 0), .sc (.int .u8 0), .sc (.int .u8 0), .sc (.int .u8 0), .sc (.int .u8 0), .sc (.int .u8 0), .sc (.int .u8 0), .sc (.int .u8 0), .sc (.int .u8 0)]) true ([]) else none else none else none else none else none else none else none else none else none else none else none else none else none else none
theorem e77 (f : Nat) (r_b_z : Bool) (r_b_f : Bool) (r_b : List PV) (r_e : Int) (k : Res → Option Res) : evFn tau F77 Try.f77 (Try.f77.body.get!) (an77 (r77_1 f) (r77_2 f)) [.ro, .ro] 13 [.ptr 0 []] [.box false 186 (.st 186 [.ro 5 r_b_z r_b_f r_b, .sc (.int .i64 r_e)])] k = g77 f r_b_z r_b_f r_b r_e k := by kernel_rfl
theorem it77 (f : Nat) : items (Try.f77.body.get!) (an77 (r77_1 f) (r77_2 f)) = [.l c77_1 nm77_1 N77 (r77_1 f), .l c77_2 nm77_2 N77 (r77_2 f)] := by kernel_rfl
theorem ia77 (f : Nat) : ∀ q ∈ items (Try.f77.body.get!) (an77 (r77_1 f) (r77_2 f)), q.Ok tau Try.prog 1 := by
  rw [it77 f]; simp only [List.forall_mem_cons, List.not_mem_nil, false_implies, implies_true, and_true]; exact ⟨i77_1 f, i77_2 f⟩
theorem fo77 : Try.prog.funcs[77]? = some Try.f77 := by kernel_rfl
theorem bo77 : Try.f77.body = some (Try.f77.body.get!) := by kernel_rfl
theorem en77 : Enters Try.prog 77 := enters_of fo77 (by kernel_rfl) bo77
end Go.Proofs.Ytcklhipdldpkhaa.Rx

namespace Go.Proofs.Ytcklhipdldpkhaa.Rx
open Go
set_option linter.unusedVariables false
set_option maxRecDepth 100000
set_option maxHeartbeats 0
noncomputable def F142 : Fns := F0
theorem F142_ok : FnsOk tau Try.prog F142 := F0_ok
def an142 : An := (.seq .leaf (.seq (.seq .leaf (.cond .leaf .leaf)) (.seq (.seq .leaf (.cond (.seq .leaf .leaf) .leaf)) (.seq .leaf (.seq .leaf .leaf)))))
noncomputable def g142 (f : Nat) (r_B_z : Bool) (r_B_f : Bool) (r_B : List PV) (r_P : Int) (r_Err : Int) (n : Int) (k : Res → Option Res) : Option Res := bif r_Err == 0 then bif decide (IntKind.i64.wrap (zi r_B.length - r_P) < n) then k (Res.mk (.ro 5 true true []) [.box false 138 (PV.st 138 [.ro 5 r_B_z r_B_f r_B, .sc (.int .i64 r_P), .sc (.int .i64 8)])] []) else bif r_Err != 0 then k (Res.mk (.ro 5 true true []) [.box false 138 (PV.st 138 [.ro 5 r_B_z r_B_f r_B, .sc (.int .i64 r_P), .sc (.int .i64 r_Err)])] []) else bif decide (0 ≤ IntKind.i64.wrap (IntKind.i64.wrap (r_P + n) - n)) && decide (0 ≤ IntKind.i64.wrap (r_P + n)) && decide ((IntKind.i64.wrap (IntKind.i64.wrap (r_P + n) - n)).toNat ≤ (IntKind.i64.wrap (r_P + n)).toNat) && decide ((IntKind.i64.wrap (r_P + n)).toNat ≤ r_B.length) && true then k (Res.mk (.ro 5 r_B_z (r_B_z || r_B_f && false) (List.drop (IntKind.i64.wrap (IntKind.i64.wrap (r_P + n) - n)).toNat (List.take (IntKind.i64.wrap (r_P + n)).toNat r_B))) [.box false 138 (PV.st 138 [.ro 5 r_B_z r_B_f r_B, .sc (.int .i64 (IntKind.i64.wrap (r_P + n))), .sc (.int .i64 r_Err)])] []) else none else bif r_Err != 0 then k (Res.mk (.ro 5 true true []) [.box false 138 (PV.st 138 [.ro 5 r_B_z r_B_f r_B, .sc (.int .i64 r_P), .sc (.int .i64 r_Err)])] []) else bif decide (0 ≤ IntKind.i64.wrap (IntKind.i64.wrap (r_P + n) - n)) && decide (0 ≤ IntKind.i64.wrap (r_P + n)) && decide ((IntKind.i64.wrap (IntKind.i64.wrap (r_P + n) - n)).toNat ≤ (IntKind.i64.wrap (r_P + n)).toNat) && decide ((IntKind.i64.wrap (r_P + n)).toNat ≤ r_B.length) && true then k (Res.mk (.ro 5 r_B_z (r_B_z || r_B_f && false) (List.drop (IntKind.i64.wrap (IntKind.i64.wrap (r_P + n) - n)).toNat (List.take (IntKind.i64.wrap (r_P + n)).toNat r_B))) [.box false 138 (PV.st 138 [.ro 5 r_B_z r_B_f r_B, .sc (.int .i64 (IntKind.i64.wrap (r_P + n))), .sc (.int .i64 r_Err)])] []) else none
theorem e142 (f : Nat) (r_B_z : Bool) (r_B_f : Bool) (r_B : List PV) (r_P : Int) (r_Err : Int) (n : Int) (k : Res → Option Res) : evFn tau F142 Try.f142 (Try.f142.body.get!) an142 [.ro] 0 [.ptr 0 [], .sc (.int .i64 n)] [.box false 138 (.st 138 [.ro 5 r_B_z r_B_f r_B, .sc (.int .i64 r_P), .sc (.int .i64 r_Err)])] k = g142 f r_B_z r_B_f r_B r_P r_Err n k := by kernel_rfl
theorem it142 (f : Nat) : items (Try.f142.body.get!) an142 = [] := by kernel_rfl
theorem ia142 (f : Nat) : ∀ q ∈ items (Try.f142.body.get!) an142, q.Ok tau Try.prog 1 := by
  rw [it142 f]; intro q hq; cases hq
theorem fo142 : Try.prog.funcs[142]? = some Try.f142 := by kernel_rfl
theorem bo142 : Try.f142.body = some (Try.f142.body.get!) := by kernel_rfl
theorem en142 : Enters Try.prog 142 := enters_of fo142 (by kernel_rfl) bo142
noncomputable def run142 : List PV → List Ent → (Res → Option Res) → Option Res
  | [.ptr 0 [], .sc (.int .i64 n)], [.box false 138 (.st 138 [.ro 5 r_B_z r_B_f r_B, .sc (.int .i64 r_P), .sc (.int .i64 r_Err)])], k => g142 0 r_B_z r_B_f r_B r_P r_Err n k
  | _, _, _ => none
noncomputable def s142 : Sig := { own := [], run := run142 }
theorem ok142 : CallOk tau Try.prog 142 s142 := fn_ok tabOk F142_ok mixed fo142 bo142 an142 [.ro] 1 [] run142 (ia142 0) fun xs es k res hr => by
  unfold run142 at hr
  split at hr
  · exact ⟨rfl, 0, (e142 0 _ _ _ _ _ _  _).trans hr⟩
  · cases hr
end Go.Proofs.Ytcklhipdldpkhaa.Rx

-- FN (*ref1.Reader).take
namespace Go.Proofs.Ytcklhipdldpkhaa.Rx
open Go
set_option linter.unusedVariables false
set_option linter.unusedSimpArgs false
set_option maxRecDepth 100000
set_option maxHeartbeats 1000000
abbrev rfP (z f : Bool) (t : RT) : Ent := .box false 138 (.st 138 [.ro 5 z f t.B, .sc (.int .i64 t.P), .sc (.int .i64 t.e)])
noncomputable def run142' : List PV → List Ent → (Res → Option Res) → Option Res
  | [.ptr 0 [], .sc (.int .i64 n)], [.box false 138 (.st 138 [.ro 5 z f B, .sc (.int .i64 P), .sc (.int .i64 e)])], k =>
    bif okT ⟨B, P, e⟩ && (decide (0 ≤ n) && decide (n ≤ 1000000000)) then k ⟨.ro 5 (!okS n.toNat (RT.view ⟨B, P, e⟩) || z) (!okS n.toNat (RT.view ⟨B, P, e⟩) || z) (outS n.toNat (RT.view ⟨B, P, e⟩)), [rfP z f (stepT n.toNat ⟨B, P, e⟩)], []⟩ else none
  | _, _, _ => none
noncomputable def s142' : Sig := { own := [], run := run142' }
theorem g142_eq (z f : Bool) (B : List PV) (P e n : Int) (hk : okT ⟨B, P, e⟩ = true) (hn : 0 ≤ n) (hn2 : n ≤ 1000000000) (k : Res → Option Res) :
    g142 0 z f B P e n k = k ⟨.ro 5 (!okS n.toNat (RT.view ⟨B, P, e⟩) || z) (!okS n.toNat (RT.view ⟨B, P, e⟩) || z) (outS n.toNat (RT.view ⟨B, P, e⟩)), [rfP z f (stepT n.toNat ⟨B, P, e⟩)], []⟩ := by
  rw [okS_eq, outS_eq, stepT_eq]
  simp only [okT, Bool.and_eq_true, decide_eq_true_eq, Nat.ble_eq] at hk
  obtain ⟨k1, k2, k3, k4⟩ := hk
  have hz2 : (z || f && false) = z := by cases z <;> cases f <;> rfl
  obtain ⟨p, rfl⟩ := Int.eq_ofNat_of_zero_le k1
  obtain ⟨m, rfl⟩ := Int.eq_ofNat_of_zero_le hn
  have w1 : IntKind.i64.wrap (zi B.length - (p : Int)) = ((B.length - p : Nat) : Int) := by simp only [zi]; rw [wrap_i64 (by omega) (by omega)]; omega
  have w2 : IntKind.i64.wrap ((p : Int) + (m : Int)) = ((p + m : Nat) : Int) := by rw [wrap_i64 (by omega) (by omega)]; omega
  have w3 : IntKind.i64.wrap (((p + m : Nat) : Int) - (m : Int)) = (p : Int) := by rw [wrap_i64 (by omega) (by omega)]; omega
  have hdl : (B.drop p).length = B.length - p := List.length_drop
  unfold g142
  simp only [w1, w2, w3, Int.toNat_natCast, hz2]
  by_cases c2 : e = 0
  · subst c2
    simp only [beq_self_eq_true, cond_true]
    have h00 : ((0 : Int) != 0) = false := by decide
    by_cases c1 : ((B.length - p : Nat) : Int) < (m : Int)
    · rw [bif_t (by simpa using c1)]
      have hb : Nat.ble m (B.length - p) = false := by
        cases h : Nat.ble m (B.length - p) with
        | false => rfl
        | true => rw [Nat.ble_eq] at h; omega
      simp [okS0, outS0, stepT0, RT.view, hb]
    · have hb : Nat.ble m (B.length - p) = true := by rw [Nat.ble_eq]; omega
      simp only [h00, cond_false]
      rw [bif_f (by simpa using c1), bif_t (by simp; omega)]
      have hd : List.drop p (List.take (p + m) B) = List.take m (List.drop p B) := by rw [List.drop_take]; congr 1; omega
      rw [hd]
      simp [okS0, outS0, stepT0, RT.view, hb]
  · have hb : (e == 0) = false := by simpa using c2
    have hb2 : (e != 0) = true := by simpa using c2
    simp only [hb, hb2, cond_true, cond_false]
    simp [okS0, outS0, stepT0, RT.view, hb]
theorem ok142' : CallOk tau Try.prog 142 s142' := ok142.of fun xs es k res hr => by
  change run142' xs es k = some res at hr
  unfold run142' at hr
  split at hr
  · obtain ⟨hc, hr⟩ := of_bif hr
    simp only [Bool.and_eq_true, decide_eq_true_eq] at hc
    exact (g142_eq _ _ _ _ _ _ hc.1 hc.2.1 hc.2.2 _).trans hr
  · cases hr
end Go.Proofs.Ytcklhipdldpkhaa.Rx

namespace Go.Proofs.Ytcklhipdldpkhaa.Rx
open Go
set_option linter.unusedVariables false
set_option maxRecDepth 100000
set_option maxHeartbeats 0
def N84 : Nat := 25
noncomputable def F84 : Fns := addF 142 s142' (F0)
theorem F84_ok : FnsOk tau Try.prog F84 := (F0_ok).add ok142' en142
noncomputable def c84_0 : Code := subC (Try.f84.body.get!) [1, 1, 1, 0, 1, 0, 0]
def nm84_0 : Nm := [(3, .any), (4, .any), (5, .any)]
def nx84_0 : Nm := [(3, .any)]
def x84_0 : An := (.seq (.seq .leaf (.cond .leaf .leaf)) (.seq (.block none .leaf) .leaf))
def an84 (r0 : RunL) : An := (.seq .leaf (.seq .leaf (.seq .leaf (.seq (.seq .leaf (.block none (.sum nm84_0 N84 r0))) (.seq .leaf .leaf)))))
noncomputable def lpS84_0 (f : Nat) (rc : Int → Bool → Bool → List PV → Int → Bool → Bool → List PV → Int → Int → Option Res) (k0 : Int → Bool → Bool → List PV → Int → Int → Option Res) (v0 : Int) (v1 : Bool) (v2 : Bool) (v3 : List PV) (v4 : Int) (v5 : Bool) (v6 : Bool) (v7 : List PV) (v8 : Int) (v9 : Int) : Option Res := bif decide (v4 ≥ 0) then bif decide (0 ≤ v4) && decide (v4 < zi v3.length) && PV.isInt IntKind.u8 (v3.getD v4.toNat PV.top) && true then rc (bitI BinOp.or IntKind.u64 (shlI IntKind.u64 v0 8) (IntKind.u64.wrap (v3.getD v4.toNat PV.top).int)) v1 v2 v3 (IntKind.i64.wrap (v4 - 1)) v5 v6 v7 v8 v9 else none else k0 v0 v5 v6 v7 v8 v9
noncomputable def lp84_0 (f : Nat) (k0 : Int → Bool → Bool → List PV → Int → Int → Option Res) : Nat → Int → Bool → Bool → List PV → Int → Bool → Bool → List PV → Int → Int → Option Res
  | 0, _, _, _, _, _, _, _, _, _, _ => none
  | n + 1, v0, v1, v2, v3, v4, v5, v6, v7, v8, v9 => lpS84_0 f (lp84_0 f k0 n) k0 v0 v1 v2 v3 v4 v5 v6 v7 v8 v9
theorem lpR84_0 (f : Nat) (k : Kont) (n : Nat) (v0 : Int) (v1 : Bool) (v2 : Bool) (v3 : List PV) (v4 : Int) (v5 : Bool) (v6 : Bool) (v7 : List PV) (v8 : Int) (v9 : Int) : evLoop tau 1 nm84_0 (fun s k => ev tau F84 1 0 c84_0 (x84_0 ) s k) (n + 1) (fillS nm84_0 N84 [.sc (.int .u64 v0), .ro 5 v1 v2 v3, .sc (.int .i64 v4)] [(0, .box false 138 (PV.st 138 [.ro 5 v5 v6 v7, .sc (.int .i64 v8), .sc (.int .i64 v9)]))]) (kNorm tau 1 nx84_0 k) = lpS84_0 f (fun v0 v1 v2 v3 v4 v5 v6 v7 v8 v9 => evLoop tau 1 nm84_0 (fun s k => ev tau F84 1 0 c84_0 (x84_0 ) s k) n (fillS nm84_0 N84 [.sc (.int .u64 v0), .ro 5 v1 v2 v3, .sc (.int .i64 v4)] [(0, .box false 138 (PV.st 138 [.ro 5 v5 v6 v7, .sc (.int .i64 v8), .sc (.int .i64 v9)]))]) (kNorm tau 1 nx84_0 k)) (fun x0 x1 x2 x3 x4 x5 => k (Ex.exit 0) (fillS nx84_0 N84 [.sc (.int .u64 x0)] [(0, .box false 138 (PV.st 138 [.ro 5 x1 x2 x3, .sc (.int .i64 x4), .sc (.int .i64 x5)]))])) v0 v1 v2 v3 v4 v5 v6 v7 v8 v9 := by kernel_rfl
theorem lpE84_0 (f : Nat) (k : Kont) : ∀ (n : Nat) (v0 : Int) (v1 : Bool) (v2 : Bool) (v3 : List PV) (v4 : Int) (v5 : Bool) (v6 : Bool) (v7 : List PV) (v8 : Int) (v9 : Int), evLoop tau 1 nm84_0 (fun s k => ev tau F84 1 0 c84_0 (x84_0 ) s k) n (fillS nm84_0 N84 [.sc (.int .u64 v0), .ro 5 v1 v2 v3, .sc (.int .i64 v4)] [(0, .box false 138 (PV.st 138 [.ro 5 v5 v6 v7, .sc (.int .i64 v8), .sc (.int .i64 v9)]))]) (kNorm tau 1 nx84_0 k) = lp84_0 f (fun x0 x1 x2 x3 x4 x5 => k (Ex.exit 0) (fillS nx84_0 N84 [.sc (.int .u64 x0)] [(0, .box false 138 (PV.st 138 [.ro 5 x1 x2 x3, .sc (.int .i64 x4), .sc (.int .i64 x5)]))])) n v0 v1 v2 v3 v4 v5 v6 v7 v8 v9 | 0, _, _, _, _, _, _, _, _, _, _ => rfl | n + 1, v0, v1, v2, v3, v4, v5, v6, v7, v8, v9 => (lpR84_0 f k n v0 v1 v2 v3 v4 v5 v6 v7 v8 v9).trans (congrArg (fun r => lpS84_0 f r (fun x0 x1 x2 x3 x4 x5 => k (Ex.exit 0) (fillS nx84_0 N84 [.sc (.int .u64 x0)] [(0, .box false 138 (PV.st 138 [.ro 5 x1 x2 x3, .sc (.int .i64 x4), .sc (.int .i64 x5)]))])) v0 v1 v2 v3 v4 v5 v6 v7 v8 v9) (by funext v0 v1 v2 v3 v4 v5 v6 v7 v8 v9; exact lpE84_0 f k n v0 v1 v2 v3 v4 v5 v6 v7 v8 v9))
noncomputable def r84_0 (f : Nat) : List PV → List (Nat × Ent) → Kont → Option Res
  | [.sc (.int .u64 v0), .ro 5 v1 v2 v3,
  PV.sc
    (Value.int IntKind.i64
      v4)], [(0,
    Ent.box false 138
      (PV.st 138
        [.ro 5 v5 v6 v7, .sc (.int .i64 v8),
          PV.sc
            (Value.int IntKind.i64
              v9)]))], k => lp84_0 f (fun x0 x1 x2 x3 x4 x5 => k (Ex.exit
  0) (fillS nx84_0 N84 [PV.sc
    (Value.int .u64 x0)] [(0, .box false 138 (PV.st 138 [.ro 5 x1 x2 x3, .sc (.int .i64 x4), .sc (.int .i64 x5)]))])) f v0 v1 v2 v3 v4 v5 v6 v7 v8 v9
  | _, _, _ => none
theorem it84_0 (f : Nat) : items c84_0 x84_0 = [] := by kernel_rfl
theorem i84_0 (f : Nat) : (Item.l c84_0 nm84_0 N84 (r84_0 f)).Ok tau Try.prog 1 := loop_item tabOk F84_ok mixed (x := x84_0) (nm2 := nx84_0) (anOk_items _ _ (by rw [it84_0 f]; intro q hq; cases hq)) fun vs hp k res hr => by
  unfold r84_0 at hr
  split at hr
  · exact ⟨f, 0, (lpE84_0 f _ f _ _ _ _ _ _ _ _ _ _ ).trans hr⟩
  · cases hr
noncomputable def g84 (f : Nat) (r_B_z : Bool) (r_B_f : Bool) (r_B : List PV) (r_P : Int) (r_Err : Int) (k : Res → Option Res) : Option Res := bif okT (RT.mk r_B r_P r_Err) && true then lp84_0 f (fun x0_0 x1_0 x2_0 x3_0 x4_0 x5_0 => k (Res.mk (.sc (.int .i64 (IntKind.i64.wrap x0_0))) [.box false 138 (PV.st 138 [.ro 5 x1_0 x2_0 x3_0, .sc (.int .i64 x4_0), .sc (.int .i64 x5_0)])] [])) f (0) (!okS 8 (RS.mk (List.drop (RT.mk r_B r_P r_Err).P.toNat (RT.mk r_B r_P r_Err).B) (RT.mk r_B r_P r_Err).e) || r_B_z) (!okS 8 (RS.mk (List.drop (RT.mk r_B r_P r_Err).P.toNat (RT.mk r_B r_P r_Err).B) (RT.mk r_B r_P r_Err).e) || r_B_z) (outS 8 (RS.mk (List.drop (RT.mk r_B r_P r_Err).P.toNat (RT.mk r_B r_P r_Err).B) (RT.mk r_B r_P r_Err).e)) (IntKind.i64.wrap (zi (outS 8 (RS.mk (List.drop (RT.mk r_B r_P r_Err).P.toNat (RT.mk r_B r_P r_Err).B) (RT.mk r_B r_P r_Err).e)).length - 1)) r_B_z r_B_f ((stepT 8 (RT.mk r_B r_P r_Err)).B) ((stepT 8 (RT.mk r_B r_P r_Err)).P) ((stepT 8 (RT.mk r_B r_P r_Err)).e) else none
theorem e84 (f : Nat) (r_B_z : Bool) (r_B_f : Bool) (r_B : List PV) (r_P : Int) (r_Err : Int) (k : Res → Option Res) : evFn tau F84 Try.f84 (Try.f84.body.get!) (an84 (r84_0 f)) [.ro] 0 [.ptr 0 []] [.box false 138 (.st 138 [.ro 5 r_B_z r_B_f r_B, .sc (.int .i64 r_P), .sc (.int .i64 r_Err)])] k = g84 f r_B_z r_B_f r_B r_P r_Err k := by kernel_rfl
theorem it84 (f : Nat) : items (Try.f84.body.get!) (an84 (r84_0 f)) = [.l c84_0 nm84_0 N84 (r84_0 f)] := by kernel_rfl
theorem ia84 (f : Nat) : ∀ q ∈ items (Try.f84.body.get!) (an84 (r84_0 f)), q.Ok tau Try.prog 1 := by
  rw [it84 f]; simp only [List.forall_mem_cons, List.not_mem_nil, false_implies, implies_true, and_true]; exact i84_0 f
theorem fo84 : Try.prog.funcs[84]? = some Try.f84 := by kernel_rfl
theorem bo84 : Try.f84.body = some (Try.f84.body.get!) := by kernel_rfl
theorem en84 : Enters Try.prog 84 := enters_of fo84 (by kernel_rfl) bo84
end Go.Proofs.Ytcklhipdldpkhaa.Rx

namespace Go.Proofs.Ytcklhipdldpkhaa.Rx
open Go
set_option linter.unusedVariables false
set_option maxRecDepth 100000
set_option maxHeartbeats 0
noncomputable def F83 : Fns := addF 142 s142' (F0)
theorem F83_ok : FnsOk tau Try.prog F83 := (F0_ok).add ok142' en142
def an83 : An := (.seq .leaf (.seq .leaf (.seq (.seq .leaf (.cond (.seq .leaf .leaf) .leaf)) (.seq .leaf .leaf))))
noncomputable def g83 (f : Nat) (r_B_z : Bool) (r_B_f : Bool) (r_B : List PV) (r_P : Int) (r_Err : Int) (k : Res → Option Res) : Option Res := bif okT (RT.mk r_B r_P r_Err) && true then bif zi (outS 1 (RS.mk (List.drop (RT.mk r_B r_P r_Err).P.toNat (RT.mk r_B r_P r_Err).B) (RT.mk r_B r_P r_Err).e)).length == 0 then k (Res.mk (.sc (.int .i64 0)) [.box false 138 (PV.st 138 [.ro 5 r_B_z r_B_f (stepT 1 (RT.mk r_B r_P r_Err)).B, .sc (.int .i64 (stepT 1 (RT.mk r_B r_P r_Err)).P), .sc (.int .i64 (stepT 1 (RT.mk r_B r_P r_Err)).e)])] []) else bif decide (0 < zi (outS 1 (RS.mk (List.drop (RT.mk r_B r_P r_Err).P.toNat (RT.mk r_B r_P r_Err).B) (RT.mk r_B r_P r_Err).e)).length) && PV.isInt IntKind.u8 ((outS 1 (RS.mk (List.drop (RT.mk r_B r_P r_Err).P.toNat (RT.mk r_B r_P r_Err).B) (RT.mk r_B r_P r_Err).e)).getD 0 PV.top) && true then k (Res.mk (.sc (.int .i64 (IntKind.i64.wrap ((outS 1 (RS.mk (List.drop (RT.mk r_B r_P r_Err).P.toNat (RT.mk r_B r_P r_Err).B) (RT.mk r_B r_P r_Err).e)).getD 0 PV.top).int))) [.box false 138 (PV.st 138 [.ro 5 r_B_z r_B_f (stepT 1 (RT.mk r_B r_P r_Err)).B, .sc (.int .i64 (stepT 1 (RT.mk r_B r_P r_Err)).P), .sc (.int .i64 (stepT 1 (RT.mk r_B r_P r_Err)).e)])] []) else none else none
theorem e83 (f : Nat) (r_B_z : Bool) (r_B_f : Bool) (r_B : List PV) (r_P : Int) (r_Err : Int) (k : Res → Option Res) : evFn tau F83 Try.f83 (Try.f83.body.get!) an83 [.ro] 0 [.ptr 0 []] [.box false 138 (.st 138 [.ro 5 r_B_z r_B_f r_B, .sc (.int .i64 r_P), .sc (.int .i64 r_Err)])] k = g83 f r_B_z r_B_f r_B r_P r_Err k := by kernel_rfl
theorem it83 (f : Nat) : items (Try.f83.body.get!) an83 = [] := by kernel_rfl
theorem ia83 (f : Nat) : ∀ q ∈ items (Try.f83.body.get!) an83, q.Ok tau Try.prog 1 := by
  rw [it83 f]; intro q hq; cases hq
theorem fo83 : Try.prog.funcs[83]? = some Try.f83 := by kernel_rfl
theorem bo83 : Try.f83.body = some (Try.f83.body.get!) := by kernel_rfl
theorem en83 : Enters Try.prog 83 := enters_of fo83 (by kernel_rfl) bo83
noncomputable def run83 : List PV → List Ent → (Res → Option Res) → Option Res
  | [.ptr 0 []], [.box false 138 (.st 138 [.ro 5 r_B_z r_B_f r_B, .sc (.int .i64 r_P), .sc (.int .i64 r_Err)])], k => g83 0 r_B_z r_B_f r_B r_P r_Err k
  | _, _, _ => none
noncomputable def s83 : Sig := { own := [], run := run83 }
theorem ok83 : CallOk tau Try.prog 83 s83 := fn_ok tabOk F83_ok mixed fo83 bo83 an83 [.ro] 1 [] run83 (ia83 0) fun xs es k res hr => by
  unfold run83 at hr
  split at hr
  · exact ⟨rfl, 0, (e83 0 _ _ _ _ _  _).trans hr⟩
  · cases hr
end Go.Proofs.Ytcklhipdldpkhaa.Rx

namespace Go.Proofs.Ytcklhipdldpkhaa.Rx
open Go
set_option linter.unusedVariables false
set_option maxRecDepth 100000
set_option maxHeartbeats 0
noncomputable def F86 : Fns := addF 142 s142' (F0)
theorem F86_ok : FnsOk tau Try.prog F86 := (F0_ok).add ok142' en142
def an86 : An := (.seq .leaf (.seq .leaf (.seq (.seq .leaf (.cond (.seq .leaf .leaf) .leaf)) (.seq .leaf .leaf))))
noncomputable def g86 (f : Nat) (r_B_z : Bool) (r_B_f : Bool) (r_B : List PV) (r_P : Int) (r_Err : Int) (k : Res → Option Res) : Option Res := bif okT (RT.mk r_B r_P r_Err) && true then bif zi (outS 2 (RS.mk (List.drop (RT.mk r_B r_P r_Err).P.toNat (RT.mk r_B r_P r_Err).B) (RT.mk r_B r_P r_Err).e)).length == 0 then k (Res.mk (.sc (.string (ByteArray.mk (Array.mk [])))) [.box false 138 (PV.st 138 [.ro 5 r_B_z r_B_f (stepT 2 (RT.mk r_B r_P r_Err)).B, .sc (.int .i64 (stepT 2 (RT.mk r_B r_P r_Err)).P), .sc (.int .i64 (stepT 2 (RT.mk r_B r_P r_Err)).e)])] []) else bif decide (0 < zi (outS 2 (RS.mk (List.drop (RT.mk r_B r_P r_Err).P.toNat (RT.mk r_B r_P r_Err).B) (RT.mk r_B r_P r_Err).e)).length) && PV.isInt IntKind.u8 ((outS 2 (RS.mk (List.drop (RT.mk r_B r_P r_Err).P.toNat (RT.mk r_B r_P r_Err).B) (RT.mk r_B r_P r_Err).e)).getD 0 PV.top) && true then bif decide (1 < zi (outS 2 (RS.mk (List.drop (RT.mk r_B r_P r_Err).P.toNat (RT.mk r_B r_P r_Err).B) (RT.mk r_B r_P r_Err).e)).length) && PV.isInt IntKind.u8 ((outS 2 (RS.mk (List.drop (RT.mk r_B r_P r_Err).P.toNat (RT.mk r_B r_P r_Err).B) (RT.mk r_B r_P r_Err).e)).getD 1 PV.top) && true then bif okT (stepT 2 (RT.mk r_B r_P r_Err)) && (decide (0 ≤ IntKind.i64.wrap (IntKind.i64.wrap ((outS 2 (RS.mk (List.drop (RT.mk r_B r_P r_Err).P.toNat (RT.mk r_B r_P r_Err).B) (RT.mk r_B r_P r_Err).e)).getD 0 PV.top).int + IntKind.i64.wrap (256 * IntKind.i64.wrap ((outS 2 (RS.mk (List.drop (RT.mk r_B r_P r_Err).P.toNat (RT.mk r_B r_P r_Err).B) (RT.mk r_B r_P r_Err).e)).getD 1 PV.top).int))) && decide (IntKind.i64.wrap (IntKind.i64.wrap ((outS 2 (RS.mk (List.drop (RT.mk r_B r_P r_Err).P.toNat (RT.mk r_B r_P r_Err).B) (RT.mk r_B r_P r_Err).e)).getD 0 PV.top).int + IntKind.i64.wrap (256 * IntKind.i64.wrap ((outS 2 (RS.mk (List.drop (RT.mk r_B r_P r_Err).P.toNat (RT.mk r_B r_P r_Err).B) (RT.mk r_B r_P r_Err).e)).getD 1 PV.top).int)) ≤ 1000000000)) then bif allInt IntKind.u8 (outS (IntKind.i64.wrap (IntKind.i64.wrap ((outS 2 (RS.mk (List.drop (RT.mk r_B r_P r_Err).P.toNat (RT.mk r_B r_P r_Err).B) (RT.mk r_B r_P r_Err).e)).getD 0 PV.top).int + IntKind.i64.wrap (256 * IntKind.i64.wrap ((outS 2 (RS.mk (List.drop (RT.mk r_B r_P r_Err).P.toNat (RT.mk r_B r_P r_Err).B) (RT.mk r_B r_P r_Err).e)).getD 1 PV.top).int))).toNat (RS.mk (List.drop (RT.mk (stepT 2 (RT.mk r_B r_P r_Err)).B (stepT 2 (RT.mk r_B r_P r_Err)).P (stepT 2 (RT.mk r_B r_P r_Err)).e).P.toNat (RT.mk (stepT 2 (RT.mk r_B r_P r_Err)).B (stepT 2 (RT.mk r_B r_P r_Err)).P (stepT 2 (RT.mk r_B r_P r_Err)).e).B) (RT.mk (stepT 2 (RT.mk r_B r_P r_Err)).B (stepT 2 (RT.mk r_B r_P r_Err)).P (stepT 2 (RT.mk r_B r_P r_Err)).e).e)) && true then k (Res.mk (.sc (.string (ByteArray.mk (Array.mk (toBytes (!okS (IntKind.i64.wrap (IntKind.i64.wrap ((outS 2 (RS.mk (List.drop (RT.mk r_B r_P r_Err).P.toNat (RT.mk r_B r_P r_Err).B) (RT.mk r_B r_P r_Err).e)).getD 0 PV.top).int + IntKind.i64.wrap (256 * IntKind.i64.wrap ((outS 2 (RS.mk (List.drop (RT.mk r_B r_P r_Err).P.toNat (RT.mk r_B r_P r_Err).B) (RT.mk r_B r_P r_Err).e)).getD 1 PV.top).int))).toNat (RT.mk (stepT 2 (RT.mk r_B r_P r_Err)).B (stepT 2 (RT.mk r_B r_P r_Err)).P (stepT 2 (RT.mk r_B r_P r_Err)).e).view || r_B_z, outS (IntKind.i64.wrap (IntKind.i64.wrap ((outS 2 (RS.mk (List.drop (RT.mk r_B r_P r_Err).P.toNat (RT.mk r_B r_P r_Err).B) (RT.mk r_B r_P r_Err).e)).getD 0 PV.top).int + IntKind.i64.wrap (256 * IntKind.i64.wrap ((outS 2 (RS.mk (List.drop (RT.mk r_B r_P r_Err).P.toNat (RT.mk r_B r_P r_Err).B) (RT.mk r_B r_P r_Err).e)).getD 1 PV.top).int))).toNat (RS.mk (List.drop (RT.mk (stepT 2 (RT.mk r_B r_P r_Err)).B (stepT 2 (RT.mk r_B r_P r_Err)).P (stepT 2 (RT.mk r_B r_P r_Err)).e).P.toNat (RT.mk (stepT 2 (RT.mk r_B r_P r_Err)).B (stepT 2 (RT.mk r_B r_P r_Err)).P (stepT 2 (RT.mk r_B r_P r_Err)).e).B) (RT.mk (stepT 2 (RT.mk r_B r_P r_Err)).B (stepT 2 (RT.mk r_B r_P r_Err)).P (stepT 2 (RT.mk r_B r_P r_Err)).e).e)).snd))))) [.box false 138 (PV.st 138 [.ro 5 r_B_z r_B_f (stepT (IntKind.i64.wrap (IntKind.i64.wrap ((outS 2 (RS.mk (List.drop (RT.mk r_B r_P r_Err).P.toNat (RT.mk r_B r_P r_Err).B) (RT.mk r_B r_P r_Err).e)).getD 0 PV.top).int + IntKind.i64.wrap (256 * IntKind.i64.wrap ((outS 2 (RS.mk (List.drop (RT.mk r_B r_P r_Err).P.toNat (RT.mk r_B r_P r_Err).B) (RT.mk r_B r_P r_Err).e)).getD 1 PV.top).int))).toNat (stepT 2 (RT.mk r_B r_P r_Err))).B, .sc (.int .i64 (stepT (IntKind.i64.wrap (IntKind.i64.wrap ((outS 2 (RS.mk (List.drop (RT.mk r_B r_P r_Err).P.toNat (RT.mk r_B r_P r_Err).B) (RT.mk r_B r_P r_Err).e)).getD 0 PV.top).int + IntKind.i64.wrap (256 * IntKind.i64.wrap ((outS 2 (RS.mk (List.drop (RT.mk r_B r_P r_Err).P.toNat (RT.mk r_B r_P r_Err).B) (RT.mk r_B r_P r_Err).e)).getD 1 PV.top).int))).toNat (stepT 2 (RT.mk r_B r_P r_Err))).P), .sc (.int .i64 (stepT (IntKind.i64.wrap (IntKind.i64.wrap ((outS 2 (RS.mk (List.drop (RT.mk r_B r_P r_Err).P.toNat (RT.mk r_B r_P r_Err).B) (RT.mk r_B r_P r_Err).e)).getD 0 PV.top).int + IntKind.i64.wrap (256 * IntKind.i64.wrap ((outS 2 (RS.mk (List.drop (RT.mk r_B r_P r_Err).P.toNat (RT.mk r_B r_P r_Err).B) (RT.mk r_B r_P r_Err).e)).getD 1 PV.top).int))).toNat (stepT 2 (RT.mk r_B r_P r_Err))).e)])] []) else none else none else none else none else none
theorem e86 (f : Nat) (r_B_z : Bool) (r_B_f : Bool) (r_B : List PV) (r_P : Int) (r_Err : Int) (k : Res → Option Res) : evFn tau F86 Try.f86 (Try.f86.body.get!) an86 [.ro] 0 [.ptr 0 []] [.box false 138 (.st 138 [.ro 5 r_B_z r_B_f r_B, .sc (.int .i64 r_P), .sc (.int .i64 r_Err)])] k = g86 f r_B_z r_B_f r_B r_P r_Err k := by kernel_rfl
theorem it86 (f : Nat) : items (Try.f86.body.get!) an86 = [] := by kernel_rfl
theorem ia86 (f : Nat) : ∀ q ∈ items (Try.f86.body.get!) an86, q.Ok tau Try.prog 1 := by
  rw [it86 f]; intro q hq; cases hq
theorem fo86 : Try.prog.funcs[86]? = some Try.f86 := by kernel_rfl
theorem bo86 : Try.f86.body = some (Try.f86.body.get!) := by kernel_rfl
theorem en86 : Enters Try.prog 86 := enters_of fo86 (by kernel_rfl) bo86
noncomputable def run86 : List PV → List Ent → (Res → Option Res) → Option Res
  | [.ptr 0 []], [.box false 138 (.st 138 [.ro 5 r_B_z r_B_f r_B, .sc (.int .i64 r_P), .sc (.int .i64 r_Err)])], k => g86 0 r_B_z r_B_f r_B r_P r_Err k
  | _, _, _ => none
noncomputable def s86 : Sig := { own := [], run := run86 }
theorem ok86 : CallOk tau Try.prog 86 s86 := fn_ok tabOk F86_ok mixed fo86 bo86 an86 [.ro] 1 [] run86 (ia86 0) fun xs es k res hr => by
  unfold run86 at hr
  split at hr
  · exact ⟨rfl, 0, (e86 0 _ _ _ _ _  _).trans hr⟩
  · cases hr
end Go.Proofs.Ytcklhipdldpkhaa.Rx

-- FN (*ref1.Reader).Int | (*ref1.Reader).Byte | (*ref1.Reader).Text
namespace Go.Proofs.Ytcklhipdldpkhaa.Rx
open Go
set_option linter.unusedVariables false
set_option linter.unusedSimpArgs false
set_option maxRecDepth 100000
set_option maxHeartbeats 1000000
theorem bitI_or_comm' (k : IntKind) (x y : Int) : bitI .or k x y = bitI .or k y x := by simp only [bitI]; rw [BitVec.or_comm]
theorem l84_0 (L : List Int) (hL : ∀ x ∈ L, 0 ≤ x ∧ x < 256) (h8 : L.length ≤ 8) (f : Nat) (k0 : Int → Bool → Bool → List PV → Int → Int → Option Res) (a b c d : Bool) (R : List PV) (P e : Int) : ∀ (i n : Nat), i ≤ L.length → i < n →
    lp84_0 f k0 n (numL (L.drop i)) a b (pu .u8 L) ((i : Int) - 1) c d R P e = k0 (numL L) c d R P e
  | 0, n + 1, h, hn => by
      simp only [lp84_0, lpS84_0, List.drop_zero]
      exact bif_f (by decide)
  | i + 1, n + 1, h, hn => by
      have g0 : ((i + 1 : Nat) : Int) - 1 = (i : Int) := by omega
      have g1 : ((i : Int)).toNat = i := by omega
      have h1 : IntKind.i64.wrap ((i : Int) - 1) = (i : Int) - 1 := wrap_i64 (by omega) (by omega)
      have hi : i < L.length := by omega
      have hx := hL (L.getD i 0) (by rw [List.getD_eq_getElem?_getD, List.getElem?_eq_getElem hi]; exact List.getElem_mem hi)
      rw [g0]
      simp only [lp84_0, lpS84_0, g1, h1]
      rw [pu_isInt hi, pu_int hi]
      refine (bif_t (by simp)).trans ((bif_t (by simp [zi]; omega)).trans ?_)
      have hd : L.drop i = L.getD i 0 :: L.drop (i + 1) := by
        rw [List.drop_eq_getElem_cons hi, List.getD_eq_getElem?_getD, List.getElem?_eq_getElem hi]; rfl
      have hb := numL_bounds (L.drop (i + 1)) fun x hx => hL x (List.mem_of_mem_drop hx)
      have hp : (256 : Int) ^ (L.drop (i + 1)).length ≤ 2 ^ 56 := by
        rw [pow256]
        have h : (2 ^ (8 * (L.drop (i + 1)).length) : Nat) ≤ 2 ^ 56 := Nat.pow_le_pow_right (by omega) (by rw [List.length_drop]; omega)
        have e2 : ((2 : Int)) ^ (8 * (L.drop (i + 1)).length) = ((2 ^ (8 * (L.drop (i + 1)).length) : Nat) : Int) := by rw [Int.natCast_pow]; rfl
        have e3 : ((2 : Int)) ^ 56 = ((2 ^ 56 : Nat) : Int) := by rw [Int.natCast_pow]; rfl
        rw [e2, e3]; exact Int.ofNat_le.2 h
      have h56 : (2 : Int) ^ 56 = 72057594037927936 := by decide
      rw [h56] at hp
      have hsh : shlI .u64 (numL (L.drop (i + 1))) 8 = numL (L.drop (i + 1)) * 2 ^ 8 := by
        rw [shlI, wrap_u64_eq]
        have : min (8 : Int).toNat IntKind.u64.bits = 8 := by decide
        rw [this]
        have h8 : (2 : Int) ^ 8 = 256 := by decide
        rw [h8]; omega
      have hw : IntKind.u64.wrap (L.getD i 0) = L.getD i 0 := by rw [wrap_u64_eq]; omega
      have h8 : (2 : Int) ^ 8 = 256 := by decide
      have h64 : (2 : Int) ^ 64 = 18446744073709551616 := by decide
      rw [hsh, hw, bitI_or_comm', or_apart (by omega) hx.1 (by rw [h8]; exact hx.2) hb.1 (by rw [h8, h64]; omega)]
      have hn1 : L.getD i 0 + numL (L.drop (i + 1)) * 2 ^ 8 = numL (L.drop i) := by rw [hd, numL, h8]; omega
      rw [hn1]
      exact l84_0 L hL (by assumption) f k0 a b c d R P e i n (by omega) (by omega)
noncomputable def run84' : List PV → List Ent → (Res → Option Res) → Option Res
  | [.ptr 0 []], [.box false 138 (.st 138 [.ro 5 z f B, .sc (.int .i64 P), .sc (.int .i64 e)])], k =>
    bif okT ⟨B, P, e⟩ then k ⟨.sc (.int .i64 (numT 8 ⟨B, P, e⟩)), [rfP z f (stepT 8 ⟨B, P, e⟩)], []⟩ else none
  | _, _, _ => none
noncomputable def s84' : Sig := { own := [], run := run84' }
theorem okT_view {t : RT} (h : okT t = true) : byB t.view.b = true := by
  simp only [okT, Bool.and_eq_true] at h
  exact byB_drop h.2.2.1 _
theorem view_mk (B : List PV) (P e : Int) : RS.mk (List.drop (RT.mk B P e).P.toNat (RT.mk B P e).B) (RT.mk B P e).e = RT.view ⟨B, P, e⟩ := rfl
theorem ok84' : CallOk tau Try.prog 84 s84' := CallOk.mk' fun xs es k res hl hr => by
  change run84' xs es k = some res at hr
  unfold run84' at hr
  split at hr
  · rename_i z f B P e
    obtain ⟨hc, hr⟩ := of_bif hr
    have hg : g84 20 z f B P e k = some res := by
      unfold g84
      have hb := okT_view hc
      have ho := byB_iff.1 (byB_out (s := RT.view ⟨B, P, e⟩) hb 8)
      have hl8 : (ints (outS0 8 (RT.view ⟨B, P, e⟩))).length ≤ 8 := by rw [ints_length]; exact out_length _ _
      have hw : IntKind.i64.wrap (zi (outS0 8 (RT.view ⟨B, P, e⟩)).length - 1) = ((outS0 8 (RT.view ⟨B, P, e⟩)).length : Int) - 1 := by
        have := out_length 8 (RT.view ⟨B, P, e⟩)
        simp only [zi]; rw [wrap_i64 (by omega) (by omega)]
      rw [bif_t (by rw [hc]; rfl), view_mk, outS_eq, hw]
      have hL := l84_0 (ints (outS0 8 (RT.view ⟨B, P, e⟩))) ho.2 hl8 20 (fun x0_0 x1_0 x2_0 x3_0 x4_0 x5_0 => k (Res.mk (.sc (.int .i64 (IntKind.i64.wrap x0_0))) [.box false 138 (.st 138 [.ro 5 x1_0 x2_0 x3_0, .sc (.int .i64 x4_0), .sc (.int .i64 x5_0)])] [])) (!okS 8 (RT.view ⟨B, P, e⟩) || z) (!okS 8 (RT.view ⟨B, P, e⟩) || z) z f (stepT 8 ⟨B, P, e⟩).B (stepT 8 ⟨B, P, e⟩).P (stepT 8 ⟨B, P, e⟩).e (ints (outS0 8 (RT.view ⟨B, P, e⟩))).length 20 (by omega) (by omega)
      rw [← pu_ints ho.1, List.drop_length, ints_length] at hL
      simp only [numL] at hL
      refine hL.trans ?_
      rw [numT_eq] at hr
      exact hr
    exact fn_at tabOk F84_ok mixed fo84 bo84 (an84 (r84_0 20)) [.ro] 1 0 (ia84 20) hl rfl ((e84 20 z f B P e k).trans hg)
  · cases hr
noncomputable def run83' : List PV → List Ent → (Res → Option Res) → Option Res
  | [.ptr 0 []], [.box false 138 (.st 138 [.ro 5 z f B, .sc (.int .i64 P), .sc (.int .i64 e)])], k =>
    bif okT ⟨B, P, e⟩ then k ⟨.sc (.int .i64 (numT 1 ⟨B, P, e⟩)), [rfP z f (stepT 1 ⟨B, P, e⟩)], []⟩ else none
  | _, _, _ => none
noncomputable def s83' : Sig := { own := [], run := run83' }
theorem ok83' : CallOk tau Try.prog 83 s83' := ok83.of fun xs es k res hr => by
  change run83' xs es k = some res at hr
  unfold run83' at hr
  split at hr
  · rename_i z f B P e
    obtain ⟨hc, hr⟩ := of_bif hr
    show g83 0 z f B P e k = some res
    unfold g83
    have hb := okT_view hc
    have hv : RT.view ⟨B, P, e⟩ = ⟨List.drop P.toNat B, e⟩ := rfl
    rw [hv] at hb
    have ho := byB_iff.1 (byB_out hb 1)
    have hl := out_length 1 ⟨List.drop P.toNat B, e⟩
    rw [numT_eq, numS0, hv] at hr
    simp only [outS_eq]
    rw [bif_t (by rw [hc]; rfl)]
    generalize outS0 1 ⟨List.drop P.toNat B, e⟩ = O at *
    match O, hl with
    | [], _ => exact hr
    | [p], _ =>
      have h1 : p.isInt .u8 = true := by simpa [allInt] using ho.1
      have h2 := ho.2 p.int (by simp [ints])
      refine (bif_f rfl).trans ((bif_t (by simp [zi, h1])).trans ?_)
      have : numL (ints [p]) = p.int := by simp [ints, numL]
      rw [this] at hr
      exact hr
  · cases hr
noncomputable def run86' : List PV → List Ent → (Res → Option Res) → Option Res
  | [.ptr 0 []], [.box false 138 (.st 138 [.ro 5 z f B, .sc (.int .i64 P), .sc (.int .i64 e)])], k =>
    bif okT ⟨B, P, e⟩ then k ⟨.sc (.string (txtVT ⟨B, P, e⟩)), [rfP z f (txtT ⟨B, P, e⟩)], []⟩ else none
  | _, _, _ => none
noncomputable def s86' : Sig := { own := [], run := run86' }
theorem ok86' : CallOk tau Try.prog 86 s86' := ok86.of fun xs es k res hr => by
  change run86' xs es k = some res at hr
  unfold run86' at hr
  split at hr
  · rename_i z f B P e
    obtain ⟨hc, hr⟩ := of_bif hr
    show g86 0 z f B P e k = some res
    unfold g86
    have hb := okT_view hc
    have hv : RT.view ⟨B, P, e⟩ = ⟨List.drop P.toNat B, e⟩ := rfl
    rw [hv] at hb
    rw [txtVT_eq, txtT_eq] at hr
    have hk2 : okT (stepT 2 ⟨B, P, e⟩) = true := okT_stepT hc 2
    have hv2 : ∀ t : RT, RS.mk (List.drop t.P.toNat t.B) t.e = t.view := fun t => rfl
    have hst : (stepT0 2 ⟨B, P, e⟩).view = stepS0 2 ⟨List.drop P.toNat B, e⟩ := view_step 2 ⟨B, P, e⟩
    rw [bif_t (by rw [hc]; rfl)]
    simp only [outS_eq, okS_eq]
    cases hk : okS0 2 ⟨List.drop P.toNat B, e⟩ with
    | false =>
      have hO : outS0 2 ⟨List.drop P.toNat B, e⟩ = [] := by unfold outS0; rw [hk]; rfl
      have hN : numS0 2 ⟨List.drop P.toNat B, e⟩ = 0 := by unfold numS0; rw [hO]; rfl
      have he : (stepS0 2 ⟨List.drop P.toNat B, e⟩).e ≠ 0 := by
        unfold stepS0; rw [hk]
        by_cases h0 : e = 0
        · subst h0; show (8 : Int) ≠ 0; decide
        · have : (e == 0) = false := by simpa using h0
          simp only [cond_false, this]; exact h0
      have hnk : okS0 0 (stepS0 2 ⟨List.drop P.toNat B, e⟩) = false := by
        unfold okS0
        have : ((stepS0 2 ⟨List.drop P.toNat B, e⟩).e == 0) = false := by simpa using he
        rw [this]; rfl
      have h1 : txtV0 (RT.view ⟨B, P, e⟩) = ByteArray.mk (Array.mk []) := by
        rw [hv]; unfold txtV0; rw [hN]
        have : outS0 (0 : Int).toNat (stepS0 2 ⟨List.drop P.toNat B, e⟩) = [] := by
          show outS0 0 _ = []
          unfold outS0; rw [hnk]; rfl
        rw [this]; rfl
      have h2 : txtT0 ⟨B, P, e⟩ = stepT0 2 ⟨B, P, e⟩ := by
        unfold txtT0; rw [hv, hN]
        rw [← hst] at he
        exact stepT_err he _
      rw [h1, h2] at hr
      rw [hO]
      refine (bif_t rfl).trans ?_
      rw [stepT_eq]
      exact hr
    | true =>
      have hO : outS0 2 ⟨List.drop P.toNat B, e⟩ = List.take 2 (List.drop P.toNat B) := by unfold outS0; rw [hk]; rfl
      have hlen : 2 ≤ (List.drop P.toNat B).length := by
        simp only [okS0, Bool.and_eq_true, Nat.ble_eq] at hk; exact hk.2
      obtain ⟨p, q, hpq⟩ : ∃ p q, outS0 2 ⟨List.drop P.toNat B, e⟩ = [p, q] := by
        rw [hO]
        match h : List.drop P.toNat B, hlen with
        | p :: q :: r, _ => exact ⟨p, q, rfl⟩
      have ho := byB_iff.1 (byB_out hb 2)
      rw [hpq] at ho
      have hp1 : p.isInt .u8 = true ∧ q.isInt .u8 = true := by simpa [allInt] using ho.1
      have hp2 := ho.2 p.int (by simp [ints])
      have hq2 := ho.2 q.int (by simp [ints])
      have hw : IntKind.i64.wrap (IntKind.i64.wrap p.int + IntKind.i64.wrap (256 * IntKind.i64.wrap q.int)) = p.int + 256 * q.int := by
        rw [wrap_i64 (x := p.int) (by omega) (by omega), wrap_i64 (x := q.int) (by omega) (by omega), wrap_i64 (x := 256 * q.int) (by omega) (by omega), wrap_i64 (by omega) (by omega)]
      have hN : numS0 2 ⟨List.drop P.toNat B, e⟩ = p.int + 256 * q.int := by
        unfold numS0; rw [hpq]
        show IntKind.i64.wrap (numL [p.int, q.int]) = _
        simp only [numL]
        rw [wrap_i64 (by omega) (by omega)]; omega
      have g0 : ([p, q] : List PV).getD 0 PV.top = p := rfl
      have g1 : ([p, q] : List PV).getD 1 PV.top = q := rfl
      simp only [hpq, g0, g1, hw]
      refine (bif_f rfl).trans ((bif_t (by simp [zi, hp1.1])).trans ((bif_t (by simp [zi, hp1.2])).trans ((bif_t ?_).trans ?_)))
      · rw [hk2]; simp; omega
      have h1 : txtV0 (RT.view ⟨B, P, e⟩) = ⟨(toBytes (outS0 (p.int + 256 * q.int).toNat (stepT 2 ⟨B, P, e⟩).view)).toArray⟩ := by
        rw [hv]; unfold txtV0; rw [hN, stepT_eq, hst]
      have h2 : txtT0 ⟨B, P, e⟩ = stepT (p.int + 256 * q.int).toNat (stepT 2 ⟨B, P, e⟩) := by
        unfold txtT0; rw [hv, hN, stepT_eq, stepT_eq]
      have hbo : allInt .u8 (outS0 (p.int + 256 * q.int).toNat (stepT 2 ⟨B, P, e⟩).view) = true := (byB_iff.1 (byB_out (okT_view hk2) _)).1
      rw [h1, h2] at hr
      refine (bif_t (by rw [Bool.and_true]; exact hbo)).trans ?_
      exact hr
  · cases hr
end Go.Proofs.Ytcklhipdldpkhaa.Rx

namespace Go.Proofs.Ytcklhipdldpkhaa.Rx
open Go
set_option linter.unusedVariables false
set_option maxRecDepth 100000
set_option maxHeartbeats 0
def N87 : Nat := 16
noncomputable def F87 : Fns := addF 83 s83' (F0)
theorem F87_ok : FnsOk tau Try.prog F87 := (F0_ok).add ok83' en83
noncomputable def c87_0 : Code := subC (Try.f87.body.get!) [1, 1, 0, 1, 0, 0]
def nm87_0 : Nm := [(0, .any), (2, .any), (3, .any), (4, .any)]
def nx87_0 : Nm := [(2, .any), (3, .any)]
def x87_0 : An := (.seq (.seq .leaf (.cond .leaf .leaf)) (.seq (.block none .leaf) .leaf))
def an87 (r0 : RunL) : An := (.seq .leaf (.seq .leaf (.seq (.seq .leaf (.block none (.sum nm87_0 N87 r0))) (.seq .leaf .leaf))))
noncomputable def lpS87_0 (f : Nat) (rc : Int → Bool → Bool → List PV → Int → Int → List PV → List PV → Option Res) (k0 : Bool → Bool → List PV → Int → Int → List PV → List PV → Option Res) (v0 : Int) (v1 : Bool) (v2 : Bool) (v3 : List PV) (v4 : Int) (v5 : Int) (v6 : List PV) (v7 : List PV) : Option Res := bif decide (v0 < 32) then bif okT (RT.mk v3 v4 v5) then bif decide (0 ≤ v0) && decide (v0 < zi 32) && true then rc (IntKind.i64.wrap (v0 + 1)) v1 v2 ((stepT 1 (RT.mk v3 v4 v5)).B) ((stepT 1 (RT.mk v3 v4 v5)).P) ((stepT 1 (RT.mk v3 v4 v5)).e) v6 (v7.set v0.toNat (.sc (.int .u8 (IntKind.u8.wrap (numT 1 (RT.mk v3 v4 v5)))))) else none else none else k0 v1 v2 v3 v4 v5 v6 v7
noncomputable def lp87_0 (f : Nat) (k0 : Bool → Bool → List PV → Int → Int → List PV → List PV → Option Res) : Nat → Int → Bool → Bool → List PV → Int → Int → List PV → List PV → Option Res
  | 0, _, _, _, _, _, _, _, _ => none
  | n + 1, v0, v1, v2, v3, v4, v5, v6, v7 => lpS87_0 f (lp87_0 f k0 n) k0 v0 v1 v2 v3 v4 v5 v6 v7
theorem lpR87_0 (f : Nat) (k : Kont) (n : Nat) (v0 : Int) (v1 : Bool) (v2 : Bool) (v3 : List PV) (v4 : Int) (v5 : Int) (v6 : List PV) (v7 : List PV) : evLoop tau 1 nm87_0 (fun s k => ev tau F87 1 0 c87_0 (x87_0 ) s k) (n + 1) (fillS nm87_0 N87 [.ptr 0 [], .ptr 273 [], .ptr 274 [], .sc (.int .i64 v0)] [(0, .box false 138 (PV.st 138 [.ro 5 v1 v2 v3, .sc (.int .i64 v4), .sc (.int .i64 v5)])), (273, .box false 37 (PV.ar 37 v6)), (274, .box false 37 (PV.ar 37 v7))]) (kNorm tau 1 nx87_0 k) = lpS87_0 f (fun v0 v1 v2 v3 v4 v5 v6 v7 => evLoop tau 1 nm87_0 (fun s k => ev tau F87 1 0 c87_0 (x87_0 ) s k) n (fillS nm87_0 N87 [.ptr 0 [], .ptr 273 [], .ptr 274 [], .sc (.int .i64 v0)] [(0, .box false 138 (PV.st 138 [.ro 5 v1 v2 v3, .sc (.int .i64 v4), .sc (.int .i64 v5)])), (273, .box false 37 (PV.ar 37 v6)), (274, .box false 37 (PV.ar 37 v7))]) (kNorm tau 1 nx87_0 k)) (fun x0 x1 x2 x3 x4 x5 x6 => k (Ex.exit 0) (fillS nx87_0 N87 [.ptr 273 [], .ptr 274 []] [(0, .box false 138 (PV.st 138 [.ro 5 x0 x1 x2, .sc (.int .i64 x3), .sc (.int .i64 x4)])), (273, .box false 37 (PV.ar 37 x5)), (274, .box false 37 (PV.ar 37 x6))])) v0 v1 v2 v3 v4 v5 v6 v7 := by kernel_rfl
theorem lpE87_0 (f : Nat) (k : Kont) : ∀ (n : Nat) (v0 : Int) (v1 : Bool) (v2 : Bool) (v3 : List PV) (v4 : Int) (v5 : Int) (v6 : List PV) (v7 : List PV), evLoop tau 1 nm87_0 (fun s k => ev tau F87 1 0 c87_0 (x87_0 ) s k) n (fillS nm87_0 N87 [.ptr 0 [], .ptr 273 [], .ptr 274 [], .sc (.int .i64 v0)] [(0, .box false 138 (PV.st 138 [.ro 5 v1 v2 v3, .sc (.int .i64 v4), .sc (.int .i64 v5)])), (273, .box false 37 (PV.ar 37 v6)), (274, .box false 37 (PV.ar 37 v7))]) (kNorm tau 1 nx87_0 k) = lp87_0 f (fun x0 x1 x2 x3 x4 x5 x6 => k (Ex.exit 0) (fillS nx87_0 N87 [.ptr 273 [], .ptr 274 []] [(0, .box false 138 (PV.st 138 [.ro 5 x0 x1 x2, .sc (.int .i64 x3), .sc (.int .i64 x4)])), (273, .box false 37 (PV.ar 37 x5)), (274, .box false 37 (PV.ar 37 x6))])) n v0 v1 v2 v3 v4 v5 v6 v7 | 0, _, _, _, _, _, _, _, _ => rfl | n + 1, v0, v1, v2, v3, v4, v5, v6, v7 => (lpR87_0 f k n v0 v1 v2 v3 v4 v5 v6 v7).trans (congrArg (fun r => lpS87_0 f r (fun x0 x1 x2 x3 x4 x5 x6 => k (Ex.exit 0) (fillS nx87_0 N87 [.ptr 273 [], .ptr 274 []] [(0, .box false 138 (PV.st 138 [.ro 5 x0 x1 x2, .sc (.int .i64 x3), .sc (.int .i64 x4)])), (273, .box false 37 (PV.ar 37 x5)), (274, .box false 37 (PV.ar 37 x6))])) v0 v1 v2 v3 v4 v5 v6 v7) (by funext v0 v1 v2 v3 v4 v5 v6 v7; exact lpE87_0 f k n v0 v1 v2 v3 v4 v5 v6 v7))
noncomputable def r87_0 (f : Nat) : List PV → List (Nat × Ent) → Kont → Option Res
  | [.ptr 0 [], .ptr 273 [], .ptr 274 [],
  PV.sc
    (Value.int IntKind.i64
      v0)], [(0, .box false 138 (PV.st 138 [.ro 5 v1 v2 v3, .sc (.int .i64 v4), .sc (.int .i64 v5)])), (273, .box false 37 (PV.ar 37 v6)),
  (274,
    Ent.box false 37
      (PV.ar 37
        v7))], k => lp87_0 f (fun x0 x1 x2 x3 x4 x5 x6 => k (Ex.exit
  0) (fillS nx87_0 N87 [.ptr 273 [],
  PV.ptr 274
    []] [(0, .box false 138 (PV.st 138 [.ro 5 x0 x1 x2, .sc (.int .i64 x3), .sc (.int .i64 x4)])), (273, .box false 37 (PV.ar 37 x5)),
  (274, .box false 37 (PV.ar 37 x6))])) f v0 v1 v2 v3 v4 v5 v6 v7
  | _, _, _ => none
theorem it87_0 (f : Nat) : items c87_0 x87_0 = [] := by kernel_rfl
theorem i87_0 (f : Nat) : (Item.l c87_0 nm87_0 N87 (r87_0 f)).Ok tau Try.prog 1 := loop_item tabOk F87_ok mixed (x := x87_0) (nm2 := nx87_0) (anOk_items _ _ (by rw [it87_0 f]; intro q hq; cases hq)) fun vs hp k res hr => by
  unfold r87_0 at hr
  split at hr
  · exact ⟨f, 0, (lpE87_0 f _ f _ _ _ _ _ _ _ _ ).trans hr⟩
  · cases hr
noncomputable def g87 (f : Nat) (r_B_z : Bool) (r_B_f : Bool) (r_B : List PV) (r_P : Int) (r_Err : Int) (k : Res → Option Res) : Option Res := lp87_0 f (fun x0_0 x1_0 x2_0 x3_0 x4_0 x5_0 x6_0 => k (Res.mk (.ar 37 x6_0) [.box false 138 (PV.st 138 [.ro 5 x0_0 x1_0 x2_0, .sc (.int .i64 x3_0), .sc (.int .i64 x4_0)])] [])) f (0) r_B_z r_B_f r_B r_P r_Err ([.sc (.int .u8 0), .sc (.int .u8 0), .sc (.int .u8 0), .sc (.int .u8 0), .sc (.int .u8 0), .sc (.int .u8 0), .sc (.int .u8 0), .sc (.int .u8 0), .sc (.int .u8 0), .sc (.int .u8 0), .sc (.int .u8 0), .sc (.int .u8 0), .sc (.int .u8 0), .sc (.int .u8 0), .sc (.int .u8 0), .sc (.int .u8 0), .sc (.int .u8 0), .sc (.int .u8 0), .sc (.int .u8 0), .sc (.int .u8 0), .sc (.int .u8 0), .sc (.int .u8 0), .sc (.int .u8 0), .sc (.int .u8 0), .sc (.int .u8 0), .sc (.int .u8 0), .sc (.int .u8 0), .sc (.int .u8 0), .sc (.int .u8 0), .sc (.int .u8 0), .sc (.int .u8 0), .sc (.int .u8 0)]) ([.sc (.int .u8 0), .sc (.int .u8 0), .sc (.int .u8 0), .sc (.int .u8 0), .sc (.int .u8 0), .sc (.int .u8 0), .sc (.int .u8 0), .sc (.int .u8 0), .sc (.int .u8 0), .sc (.int .u8 0), .sc (.int .u8 0), .sc (.int .u8 0), .sc (.int .u8 0), .sc (.int .u8 0), .sc (.int .u8 0), .sc (.int .u8 0), .sc (.int .u8 0), .sc (.int .u8 0), .sc (.int .u8 0), .sc (.int .u8 0), .sc (.int .u8 0), .sc (.int .u8 0), .sc (.int .u8 0), .sc (.int .u8 0), .sc (.int .u8 0), .sc (.int .u8 0), .sc (.int .u8 0), .sc (.int .u8 0), .sc (.int .u8 0), .sc (.int .u8 0), .sc (.int .u8 0), .sc (.int .u8 0)])
theorem e87 (f : Nat) (r_B_z : Bool) (r_B_f : Bool) (r_B : List PV) (r_P : Int) (r_Err : Int) (k : Res → Option Res) : evFn tau F87 Try.f87 (Try.f87.body.get!) (an87 (r87_0 f)) [.ro] 0 [.ptr 0 []] [.box false 138 (.st 138 [.ro 5 r_B_z r_B_f r_B, .sc (.int .i64 r_P), .sc (.int .i64 r_Err)])] k = g87 f r_B_z r_B_f r_B r_P r_Err k := by kernel_rfl
theorem it87 (f : Nat) : items (Try.f87.body.get!) (an87 (r87_0 f)) = [.l c87_0 nm87_0 N87 (r87_0 f)] := by kernel_rfl
theorem ia87 (f : Nat) : ∀ q ∈ items (Try.f87.body.get!) (an87 (r87_0 f)), q.Ok tau Try.prog 1 := by
  rw [it87 f]; simp only [List.forall_mem_cons, List.not_mem_nil, false_implies, implies_true, and_true]; exact i87_0 f
theorem fo87 : Try.prog.funcs[87]? = some Try.f87 := by kernel_rfl
theorem bo87 : Try.f87.body = some (Try.f87.body.get!) := by kernel_rfl
theorem en87 : Enters Try.prog 87 := enters_of fo87 (by kernel_rfl) bo87
end Go.Proofs.Ytcklhipdldpkhaa.Rx

namespace Go.Proofs.Ytcklhipdldpkhaa.Rx
open Go
set_option linter.unusedVariables false
set_option maxRecDepth 100000
set_option maxHeartbeats 0
noncomputable def F149 : Fns := F0
theorem F149_ok : FnsOk tau Try.prog F149 := F0_ok
def an149 : An := (.seq .leaf (.seq .leaf (.seq .leaf .leaf)))
noncomputable def g149 (f : Nat) (x : Int) (k1 : Int) (k : Res → Option Res) : Option Res := bif decide (0 ≤ IntKind.u64.wrap (32 - bitI BinOp.and IntKind.u64 (IntKind.u64.wrap k1) 31)) && true then k (Res.mk (.sc (.int .u32 (bitI BinOp.or IntKind.u32 (shlI IntKind.u32 x (bitI BinOp.and IntKind.u64 (IntKind.u64.wrap k1) 31)) (shrI IntKind.u32 x (IntKind.u64.wrap (32 - bitI BinOp.and IntKind.u64 (IntKind.u64.wrap k1) 31)))))) [] []) else none
theorem e149 (f : Nat) (x : Int) (k1 : Int) (k : Res → Option Res) : evFn tau F149 Try.f149 (Try.f149.body.get!) an149 [.ro] 0 [.sc (.int .u32 x), .sc (.int .i64 k1)] [] k = g149 f x k1 k := by kernel_rfl
theorem it149 (f : Nat) : items (Try.f149.body.get!) an149 = [] := by kernel_rfl
theorem ia149 (f : Nat) : ∀ q ∈ items (Try.f149.body.get!) an149, q.Ok tau Try.prog 0 := by
  rw [it149 f]; intro q hq; cases hq
theorem fo149 : Try.prog.funcs[149]? = some Try.f149 := by kernel_rfl
theorem bo149 : Try.f149.body = some (Try.f149.body.get!) := by kernel_rfl
theorem en149 : Enters Try.prog 149 := enters_of fo149 (by kernel_rfl) bo149
noncomputable def run149 : List PV → List Ent → (Res → Option Res) → Option Res
  | [.sc (.int .u32 x), .sc (.int .i64 k1)], [], k => g149 0 x k1 k
  | _, _, _ => none
noncomputable def s149 : Sig := { own := [], run := run149 }
theorem ok149 : CallOk tau Try.prog 149 s149 := fn_ok tabOk F149_ok mixed fo149 bo149 an149 [.ro] 0 [] run149 (ia149 0) fun xs es k res hr => by
  unfold run149 at hr
  split at hr
  · exact ⟨rfl, 0, (e149 0 _ _  _).trans hr⟩
  · cases hr
end Go.Proofs.Ytcklhipdldpkhaa.Rx

namespace Go.Proofs.Ytcklhipdldpkhaa.Rx
open Go
set_option linter.unusedVariables false
set_option maxRecDepth 100000
set_option maxHeartbeats 0
noncomputable def F124 : Fns := addF 149 s149 (F0)
theorem F124_ok : FnsOk tau Try.prog F124 := (F0_ok).add ok149 en149
def an124 : An := (.seq .leaf (.seq .leaf .leaf))
noncomputable def g124 (f : Nat) (x : Int) (n : Int) (k : Res → Option Res) : Option Res := bif decide (0 ≤ IntKind.u64.wrap (32 - bitI BinOp.and IntKind.u64 (IntKind.u64.wrap (IntKind.i64.wrap (0 - n))) 31)) && true then k (Res.mk (.sc (.int .u32 (bitI BinOp.or IntKind.u32 (shlI IntKind.u32 x (bitI BinOp.and IntKind.u64 (IntKind.u64.wrap (IntKind.i64.wrap (0 - n))) 31)) (shrI IntKind.u32 x (IntKind.u64.wrap (32 - bitI BinOp.and IntKind.u64 (IntKind.u64.wrap (IntKind.i64.wrap (0 - n))) 31)))))) [] []) else none
theorem e124 (f : Nat) (x : Int) (n : Int) (k : Res → Option Res) : evFn tau F124 Try.f124 (Try.f124.body.get!) an124 [.ro] 0 [.sc (.int .u32 x), .sc (.int .i64 n)] [] k = g124 f x n k := by kernel_rfl
theorem it124 (f : Nat) : items (Try.f124.body.get!) an124 = [] := by kernel_rfl
theorem ia124 (f : Nat) : ∀ q ∈ items (Try.f124.body.get!) an124, q.Ok tau Try.prog 0 := by
  rw [it124 f]; intro q hq; cases hq
theorem fo124 : Try.prog.funcs[124]? = some Try.f124 := by kernel_rfl
theorem bo124 : Try.f124.body = some (Try.f124.body.get!) := by kernel_rfl
theorem en124 : Enters Try.prog 124 := enters_of fo124 (by kernel_rfl) bo124
noncomputable def run124 : List PV → List Ent → (Res → Option Res) → Option Res
  | [.sc (.int .u32 x), .sc (.int .i64 n)], [], k => g124 0 x n k
  | _, _, _ => none
noncomputable def s124 : Sig := { own := [], run := run124 }
theorem ok124 : CallOk tau Try.prog 124 s124 := fn_ok tabOk F124_ok mixed fo124 bo124 an124 [.ro] 0 [] run124 (ia124 0) fun xs es k res hr => by
  unfold run124 at hr
  split at hr
  · exact ⟨rfl, 0, (e124 0 _ _  _).trans hr⟩
  · cases hr
end Go.Proofs.Ytcklhipdldpkhaa.Rx

namespace Go.Proofs.Ytcklhipdldpkhaa.Rx
open Go
set_option linter.unusedVariables false
set_option maxRecDepth 100000
set_option maxHeartbeats 0
noncomputable def F73 : Fns := F0
theorem F73_ok : FnsOk tau Try.prog F73 := F0_ok
def an73 : An := (.seq .leaf (.seq .leaf .leaf))
noncomputable def g73 (f : Nat) (x : Int) (n : Int) (k : Res → Option Res) : Option Res := bif decide (0 ≤ n) && true then bif decide (0 ≤ IntKind.u64.wrap (32 - n)) && true then k (Res.mk (.sc (.int .u32 (bitI BinOp.or IntKind.u32 (shrI IntKind.u32 x n) (shlI IntKind.u32 x (IntKind.u64.wrap (32 - n)))))) [] []) else none else none
theorem e73 (f : Nat) (x : Int) (n : Int) (k : Res → Option Res) : evFn tau F73 Try.f73 (Try.f73.body.get!) an73 [.ro] 0 [.sc (.int .u32 x), .sc (.int .u64 n)] [] k = g73 f x n k := by kernel_rfl
theorem it73 (f : Nat) : items (Try.f73.body.get!) an73 = [] := by kernel_rfl
theorem ia73 (f : Nat) : ∀ q ∈ items (Try.f73.body.get!) an73, q.Ok tau Try.prog 0 := by
  rw [it73 f]; intro q hq; cases hq
theorem fo73 : Try.prog.funcs[73]? = some Try.f73 := by kernel_rfl
theorem bo73 : Try.f73.body = some (Try.f73.body.get!) := by kernel_rfl
theorem en73 : Enters Try.prog 73 := enters_of fo73 (by kernel_rfl) bo73
noncomputable def run73 : List PV → List Ent → (Res → Option Res) → Option Res
  | [.sc (.int .u32 x), .sc (.int .u64 n)], [], k => g73 0 x n k
  | _, _, _ => none
noncomputable def s73 : Sig := { own := [], run := run73 }
theorem ok73 : CallOk tau Try.prog 73 s73 := fn_ok tabOk F73_ok mixed fo73 bo73 an73 [.ro] 0 [] run73 (ia73 0) fun xs es k res hr => by
  unfold run73 at hr
  split at hr
  · exact ⟨rfl, 0, (e73 0 _ _  _).trans hr⟩
  · cases hr
end Go.Proofs.Ytcklhipdldpkhaa.Rx

-- FN sha.right | ref2.rot
namespace Go.Proofs.Ytcklhipdldpkhaa.Rx
open Go
set_option linter.unusedVariables false
set_option maxRecDepth 100000
set_option maxHeartbeats 4000000
def rr (x n : Int) : Int := bitI .or .u32 (shlI .u32 x (32 - n)) (shrI .u32 x n)
theorem bitI_or_comm (x y : Int) : bitI .or .u32 x y = bitI .or .u32 y x := by
  simp only [bitI]; rw [BitVec.or_comm]
theorem small {P : Int → Prop} (h : ∀ m : Nat, m < 31 → P ((m : Int) + 1)) (n : Int) (h1 : 1 ≤ n) (h2 : n ≤ 31) : P n := by
  have := h (n - 1).toNat (by omega)
  have he : (((n - 1).toNat : Nat) : Int) + 1 = n := by omega
  rwa [he] at this
def run124' : List PV → List Ent → (Res → Option Res) → Option Res
  | [.sc (.int .u32 x), .sc (.int .i64 n)], [], k => bif decide (1 ≤ n) && decide (n ≤ 31) then k ⟨.sc (.int .u32 (rr x n)), [], []⟩ else none
  | _, _, _ => none
def s124' : Sig := { own := [], run := run124' }
theorem g124_small (x : Int) (k : Res → Option Res) (n : Int) (h1 : 1 ≤ n) (h2 : n ≤ 31) : g124 0 x n k = k ⟨.sc (.int .u32 (rr x n)), [], []⟩ := by
  refine small (P := fun n => g124 0 x n k = k ⟨.sc (.int .u32 (rr x n)), [], []⟩) ?_ n h1 h2
  intro m hm
  iterate 31 (rcases m with _ | m; · kernel_rfl)
  omega
theorem ok124' : CallOk tau Try.prog 124 s124' := ok124.of fun xs es k res hr => by
  change run124' xs es k = some res at hr
  unfold run124' at hr
  split at hr
  · obtain ⟨hc, hr⟩ := of_bif hr
    simp only [Bool.and_eq_true, decide_eq_true_eq] at hc
    exact (g124_small _ _ _ hc.1 hc.2).trans hr
  · cases hr
def run73' : List PV → List Ent → (Res → Option Res) → Option Res
  | [.sc (.int .u32 x), .sc (.int .u64 n)], [], k => bif decide (1 ≤ n) && decide (n ≤ 31) then k ⟨.sc (.int .u32 (rr x n)), [], []⟩ else none
  | _, _, _ => none
def s73' : Sig := { own := [], run := run73' }
theorem g73_small (x : Int) (k : Res → Option Res) (n : Int) (h1 : 1 ≤ n) (h2 : n ≤ 31) : g73 0 x n k = k ⟨.sc (.int .u32 (rr x n)), [], []⟩ := by
  have hc : ∀ n, rr x n = bitI .or .u32 (shrI .u32 x n) (shlI .u32 x (32 - n)) := fun n => bitI_or_comm _ _
  rw [hc]
  refine small (P := fun n => g73 0 x n k = k ⟨.sc (.int .u32 (bitI .or .u32 (shrI .u32 x n) (shlI .u32 x (32 - n)))), [], []⟩) ?_ n h1 h2
  intro m hm
  iterate 31 (rcases m with _ | m; · kernel_rfl)
  omega
theorem ok73' : CallOk tau Try.prog 73 s73' := ok73.of fun xs es k res hr => by
  change run73' xs es k = some res at hr
  unfold run73' at hr
  split at hr
  · obtain ⟨hc, hr⟩ := of_bif hr
    simp only [Bool.and_eq_true, decide_eq_true_eq] at hc
    exact (g73_small _ _ _ hc.1 hc.2).trans hr
  · cases hr
end Go.Proofs.Ytcklhipdldpkhaa.Rx

namespace Go.Proofs.Ytcklhipdldpkhaa.Rx
open Go
set_option linter.unusedVariables false
set_option maxRecDepth 100000
set_option maxHeartbeats 0
def N122 : Nat := 89
noncomputable def F122 : Fns := addF 124 s124' (F0)
theorem F122_ok : FnsOk tau Try.prog F122 := (F0_ok).add ok124' en124
noncomputable def c122_0 : Code := subC (Try.f122.body.get!) [1, 1, 0, 1, 0, 0]
def nm122_0 : Nm := [(0, .any), (2, .any), (3, .any), (8, .any)]
def nx122_0 : Nm := [(2, .any), (3, .any)]
def x122_0 : An := (.seq .leaf (.seq (.cond .leaf .leaf) (.seq (.block none (.seq .leaf .leaf)) .leaf)))
noncomputable def c122_1 : Code := subC (Try.f122.body.get!) [1, 1, 1, 0, 1, 0, 0]
def nm122_1 : Nm := [(2, .any), (3, .any), (5, .any)]
def nx122_1 : Nm := [(2, .any), (3, .any)]
def x122_1 : An := (.seq (.seq .leaf (.cond .leaf .leaf)) (.seq (.block none (.seq .leaf .leaf)) .leaf))
def an122 (r0 : RunL) (r1 : RunL) : An := (.seq .leaf (.seq .leaf (.seq (.seq .leaf (.block none (.sum nm122_0 N122 r0))) (.seq (.seq .leaf (.block none (.sum nm122_1 N122 r1))) (.seq .leaf .leaf)))))
noncomputable def lpS122_0 (f : Nat) (rc : Bool → Bool → List PV → Int → List PV → List PV → Option Res) (k0 : List PV → List PV → Option Res) (v0 : Bool) (v1 : Bool) (v2 : List PV) (v3 : Int) (v4 : List PV) (v5 : List PV) : Option Res := bif decide (v3 < 16) then bif decide (0 ≤ IntKind.i64.wrap (4 * v3)) && decide (IntKind.i64.wrap (4 * v3) < zi v2.length) && PV.isInt IntKind.u8 (v2.getD (IntKind.i64.wrap (4 * v3)).toNat PV.top) && true then bif decide (0 ≤ IntKind.i64.wrap (IntKind.i64.wrap (4 * v3) + 1)) && decide (IntKind.i64.wrap (IntKind.i64.wrap (4 * v3) + 1) < zi v2.length) && PV.isInt IntKind.u8 (v2.getD (IntKind.i64.wrap (IntKind.i64.wrap (4 * v3) + 1)).toNat PV.top) && true then bif decide (0 ≤ IntKind.i64.wrap (IntKind.i64.wrap (4 * v3) + 2)) && decide (IntKind.i64.wrap (IntKind.i64.wrap (4 * v3) + 2) < zi v2.length) && PV.isInt IntKind.u8 (v2.getD (IntKind.i64.wrap (IntKind.i64.wrap (4 * v3) + 2)).toNat PV.top) && true then bif decide (0 ≤ IntKind.i64.wrap (IntKind.i64.wrap (4 * v3) + 3)) && decide (IntKind.i64.wrap (IntKind.i64.wrap (4 * v3) + 3) < zi v2.length) && PV.isInt IntKind.u8 (v2.getD (IntKind.i64.wrap (IntKind.i64.wrap (4 * v3) + 3)).toNat PV.top) && true then bif decide (0 ≤ v3) && decide (v3 < zi 64) && true then rc v0 v1 v2 (IntKind.i64.wrap (v3 + 1)) v4 (v5.set v3.toNat (.sc (.int .u32 (bitI BinOp.or IntKind.u32 (bitI BinOp.or IntKind.u32 (bitI BinOp.or IntKind.u32 (shlI IntKind.u32 (IntKind.u32.wrap (v2.getD (IntKind.i64.wrap (4 * v3)).toNat PV.top).int) 24) (shlI IntKind.u32 (IntKind.u32.wrap (v2.getD (IntKind.i64.wrap (IntKind.i64.wrap (4 * v3) + 1)).toNat PV.top).int) 16)) (shlI IntKind.u32 (IntKind.u32.wrap (v2.getD (IntKind.i64.wrap (IntKind.i64.wrap (4 * v3) + 2)).toNat PV.top).int) 8)) (IntKind.u32.wrap (v2.getD (IntKind.i64.wrap (IntKind.i64.wrap (4 * v3) + 3)).toNat PV.top).int))))) else none else none else none else none else none else k0 v4 v5
noncomputable def lp122_0 (f : Nat) (k0 : List PV → List PV → Option Res) : Nat → Bool → Bool → List PV → Int → List PV → List PV → Option Res
  | 0, _, _, _, _, _, _ => none
  | n + 1, v0, v1, v2, v3, v4, v5 => lpS122_0 f (lp122_0 f k0 n) k0 v0 v1 v2 v3 v4 v5
theorem lpR122_0 (f : Nat) (k : Kont) (n : Nat) (v0 : Bool) (v1 : Bool) (v2 : List PV) (v3 : Int) (v4 : List PV) (v5 : List PV) : evLoop tau 0 nm122_0 (fun s k => ev tau F122 0 0 c122_0 (x122_0 ) s k) (n + 1) (fillS nm122_0 N122 [.ro 5 v0 v1 v2, .ptr 1440 [], .ptr 1441 [], .sc (.int .i64 v3)] [(1440, .box false 118 (PV.ar 118 v4)), (1441, .box false 118 (PV.ar 118 v5))]) (kNorm tau 0 nx122_0 k) = lpS122_0 f (fun v0 v1 v2 v3 v4 v5 => evLoop tau 0 nm122_0 (fun s k => ev tau F122 0 0 c122_0 (x122_0 ) s k) n (fillS nm122_0 N122 [.ro 5 v0 v1 v2, .ptr 1440 [], .ptr 1441 [], .sc (.int .i64 v3)] [(1440, .box false 118 (PV.ar 118 v4)), (1441, .box false 118 (PV.ar 118 v5))]) (kNorm tau 0 nx122_0 k)) (fun x0 x1 => k (Ex.exit 0) (fillS nx122_0 N122 [.ptr 1440 [], .ptr 1441 []] [(1440, .box false 118 (PV.ar 118 x0)), (1441, .box false 118 (PV.ar 118 x1))])) v0 v1 v2 v3 v4 v5 := by kernel_rfl
theorem lpE122_0 (f : Nat) (k : Kont) : ∀ (n : Nat) (v0 : Bool) (v1 : Bool) (v2 : List PV) (v3 : Int) (v4 : List PV) (v5 : List PV), evLoop tau 0 nm122_0 (fun s k => ev tau F122 0 0 c122_0 (x122_0 ) s k) n (fillS nm122_0 N122 [.ro 5 v0 v1 v2, .ptr 1440 [], .ptr 1441 [], .sc (.int .i64 v3)] [(1440, .box false 118 (PV.ar 118 v4)), (1441, .box false 118 (PV.ar 118 v5))]) (kNorm tau 0 nx122_0 k) = lp122_0 f (fun x0 x1 => k (Ex.exit 0) (fillS nx122_0 N122 [.ptr 1440 [], .ptr 1441 []] [(1440, .box false 118 (PV.ar 118 x0)), (1441, .box false 118 (PV.ar 118 x1))])) n v0 v1 v2 v3 v4 v5 | 0, _, _, _, _, _, _ => rfl | n + 1, v0, v1, v2, v3, v4, v5 => (lpR122_0 f k n v0 v1 v2 v3 v4 v5).trans (congrArg (fun r => lpS122_0 f r (fun x0 x1 => k (Ex.exit 0) (fillS nx122_0 N122 [.ptr 1440 [], .ptr 1441 []] [(1440, .box false 118 (PV.ar 118 x0)), (1441, .box false 118 (PV.ar 118 x1))])) v0 v1 v2 v3 v4 v5) (by funext v0 v1 v2 v3 v4 v5; exact lpE122_0 f k n v0 v1 v2 v3 v4 v5))
noncomputable def r122_0 (f : Nat) : List PV → List (Nat × Ent) → Kont → Option Res
  | [.ro 5 v0 v1 v2, .ptr 1440 [], .ptr 1441 [],
  PV.sc
    (Value.int IntKind.i64
      v3)], [(1440, .box false 118 (PV.ar 118 v4)),
  (1441,
    Ent.box false 118
      (PV.ar 118
        v5))], k => lp122_0 f (fun x0 x1 => k (Ex.exit
  0) (fillS nx122_0 N122 [.ptr 1440 [], .ptr 1441 []] [(1440, .box false 118 (PV.ar 118 x0)), (1441, .box false 118 (PV.ar 118 x1))])) f v0 v1 v2 v3 v4 v5
  | _, _, _ => none
theorem it122_0 (f : Nat) : items c122_0 x122_0 = [] := by kernel_rfl
theorem i122_0 (f : Nat) : (Item.l c122_0 nm122_0 N122 (r122_0 f)).Ok tau Try.prog 0 := loop_item tabOk F122_ok mixed (x := x122_0) (nm2 := nx122_0) (anOk_items _ _ (by rw [it122_0 f]; intro q hq; cases hq)) fun vs hp k res hr => by
  unfold r122_0 at hr
  split at hr
  · exact ⟨f, 0, (lpE122_0 f _ f _ _ _ _ _ _ ).trans hr⟩
  · cases hr
noncomputable def lpS122_1 (f : Nat) (rc : Int → List PV → List PV → Option Res) (k0 : List PV → List PV → Option Res) (v0 : Int) (v1 : List PV) (v2 : List PV) : Option Res := bif decide (v0 < 64) then bif decide (0 ≤ IntKind.i64.wrap (v0 - 15)) && decide (IntKind.i64.wrap (v0 - 15) < zi 64) && true then bif PV.isInt IntKind.u32 (getP (PV.ar 118 v2) [(IntKind.i64.wrap (v0 - 15)).toNat]) && true then bif decide (0 ≤ IntKind.i64.wrap (v0 - 2)) && decide (IntKind.i64.wrap (v0 - 2) < zi 64) && true then bif PV.isInt IntKind.u32 (getP (PV.ar 118 v2) [(IntKind.i64.wrap (v0 - 2)).toNat]) && true then bif decide (0 ≤ IntKind.i64.wrap (v0 - 16)) && decide (IntKind.i64.wrap (v0 - 16) < zi 64) && true then bif PV.isInt IntKind.u32 (getP (PV.ar 118 v2) [(IntKind.i64.wrap (v0 - 16)).toNat]) && true then bif decide (0 ≤ IntKind.i64.wrap (v0 - 7)) && decide (IntKind.i64.wrap (v0 - 7) < zi 64) && true then bif PV.isInt IntKind.u32 (getP (PV.ar 118 v2) [(IntKind.i64.wrap (v0 - 7)).toNat]) && true then bif decide (0 ≤ v0) && decide (v0 < zi 64) && true then rc (IntKind.i64.wrap (v0 + 1)) v1 (v2.set v0.toNat (.sc (.int .u32 (IntKind.u32.wrap (IntKind.u32.wrap (IntKind.u32.wrap ((getP (PV.ar 118 v2) [(IntKind.i64.wrap (v0 - 16)).toNat]).int + bitI BinOp.xor IntKind.u32 (bitI BinOp.xor IntKind.u32 (rr (getP (PV.ar 118 v2) [(IntKind.i64.wrap (v0 - 15)).toNat]).int 7) (rr (getP (PV.ar 118 v2) [(IntKind.i64.wrap (v0 - 15)).toNat]).int 18)) (shrI IntKind.u32 (getP (PV.ar 118 v2) [(IntKind.i64.wrap (v0 - 15)).toNat]).int 3)) + (getP (PV.ar 118 v2) [(IntKind.i64.wrap (v0 - 7)).toNat]).int) + bitI BinOp.xor IntKind.u32 (bitI BinOp.xor IntKind.u32 (rr (getP (PV.ar 118 v2) [(IntKind.i64.wrap (v0 - 2)).toNat]).int 17) (rr (getP (PV.ar 118 v2) [(IntKind.i64.wrap (v0 - 2)).toNat]).int 19)) (shrI IntKind.u32 (getP (PV.ar 118 v2) [(IntKind.i64.wrap (v0 - 2)).toNat]).int 10)))))) else none else none else none else none else none else none else none else none else none else k0 v1 v2
noncomputable def lp122_1 (f : Nat) (k0 : List PV → List PV → Option Res) : Nat → Int → List PV → List PV → Option Res
  | 0, _, _, _ => none
  | n + 1, v0, v1, v2 => lpS122_1 f (lp122_1 f k0 n) k0 v0 v1 v2
theorem lpR122_1 (f : Nat) (k : Kont) (n : Nat) (v0 : Int) (v1 : List PV) (v2 : List PV) : evLoop tau 0 nm122_1 (fun s k => ev tau F122 0 0 c122_1 (x122_1 ) s k) (n + 1) (fillS nm122_1 N122 [.ptr 1440 [], .ptr 1441 [], .sc (.int .i64 v0)] [(1440, .box false 118 (PV.ar 118 v1)), (1441, .box false 118 (PV.ar 118 v2))]) (kNorm tau 0 nx122_1 k) = lpS122_1 f (fun v0 v1 v2 => evLoop tau 0 nm122_1 (fun s k => ev tau F122 0 0 c122_1 (x122_1 ) s k) n (fillS nm122_1 N122 [.ptr 1440 [], .ptr 1441 [], .sc (.int .i64 v0)] [(1440, .box false 118 (PV.ar 118 v1)), (1441, .box false 118 (PV.ar 118 v2))]) (kNorm tau 0 nx122_1 k)) (fun x0 x1 => k (Ex.exit 2) (fillS nx122_1 N122 [.ptr 1440 [], .ptr 1441 []] [(1440, .box false 118 (PV.ar 118 x0)), (1441, .box false 118 (PV.ar 118 x1))])) v0 v1 v2 := by kernel_rfl
theorem lpE122_1 (f : Nat) (k : Kont) : ∀ (n : Nat) (v0 : Int) (v1 : List PV) (v2 : List PV), evLoop tau 0 nm122_1 (fun s k => ev tau F122 0 0 c122_1 (x122_1 ) s k) n (fillS nm122_1 N122 [.ptr 1440 [], .ptr 1441 [], .sc (.int .i64 v0)] [(1440, .box false 118 (PV.ar 118 v1)), (1441, .box false 118 (PV.ar 118 v2))]) (kNorm tau 0 nx122_1 k) = lp122_1 f (fun x0 x1 => k (Ex.exit 2) (fillS nx122_1 N122 [.ptr 1440 [], .ptr 1441 []] [(1440, .box false 118 (PV.ar 118 x0)), (1441, .box false 118 (PV.ar 118 x1))])) n v0 v1 v2 | 0, _, _, _ => rfl | n + 1, v0, v1, v2 => (lpR122_1 f k n v0 v1 v2).trans (congrArg (fun r => lpS122_1 f r (fun x0 x1 => k (Ex.exit 2) (fillS nx122_1 N122 [.ptr 1440 [], .ptr 1441 []] [(1440, .box false 118 (PV.ar 118 x0)), (1441, .box false 118 (PV.ar 118 x1))])) v0 v1 v2) (by funext v0 v1 v2; exact lpE122_1 f k n v0 v1 v2))
noncomputable def r122_1 (f : Nat) : List PV → List (Nat × Ent) → Kont → Option Res
  | [.ptr 1440 [], .ptr 1441 [],
  PV.sc
    (Value.int IntKind.i64
      v0)], [(1440, .box false 118 (PV.ar 118 v1)),
  (1441,
    Ent.box false 118
      (PV.ar 118
        v2))], k => lp122_1 f (fun x0 x1 => k (Ex.exit
  2) (fillS nx122_1 N122 [.ptr 1440 [], .ptr 1441 []] [(1440, .box false 118 (PV.ar 118 x0)), (1441, .box false 118 (PV.ar 118 x1))])) f v0 v1 v2
  | _, _, _ => none
theorem it122_1 (f : Nat) : items c122_1 x122_1 = [] := by kernel_rfl
theorem i122_1 (f : Nat) : (Item.l c122_1 nm122_1 N122 (r122_1 f)).Ok tau Try.prog 0 := loop_item tabOk F122_ok mixed (x := x122_1) (nm2 := nx122_1) (anOk_items _ _ (by rw [it122_1 f]; intro q hq; cases hq)) fun vs hp k res hr => by
  unfold r122_1 at hr
  split at hr
  · exact ⟨f, 0, (lpE122_1 f _ f _ _ _ ).trans hr⟩
  · cases hr
noncomputable def g122 (f : Nat) (b_z : Bool) (b_f : Bool) (b : List PV) (k : Res → Option Res) : Option Res := lp122_0 f (fun x0_0 x1_0 => lp122_1 f (fun x0_1 x1_1 => k (Res.mk (.ar 118 x1_1) [] [])) f (16) x0_0 x1_0) f b_z b_f b (0) ([.sc (.int .u32 0), .sc (.int .u32 0), .sc (.int .u32 0), .sc (.int .u32 0), .sc (.int .u32 0), .sc (.int .u32 0), .sc (.int .u32 0), .sc (.int .u32 0), .sc (.int .u32 0), .sc (.int .u32 0), .sc (.int .u32 0), .sc (.int .u32 0), .sc (.int .u32 0), .sc (.int .u32 0), .sc (.int .u32 0), .sc (.int .u32 0), .sc (.int .u32 0), .sc (.int .u32 0), .sc (.int .u32 0), .sc (.int .u32 0), .sc (.int .u32 0), .sc (.int .u32 0), .sc (.int .u32 0), .sc (.int .u32 0), .sc (.int .u32 0), .sc (.int .u32 0), .sc (.int .u32 0), .sc (.int .u32 0), .sc (.int .u32 0), .sc (.int .u32 0), .sc (.int .u32 0), .sc (.int .u32 0), .sc (.int .u32 0), .sc (.int .u32 0), .sc (.int .u32 0), .sc (.int .u32 0), .sc (.int .u32 0), .sc (.int .u32 0), .sc (.int .u32 0), .sc (.int .u32 0), .sc (.int .u32 0), .sc (.int .u32 0), .sc (.int .u32 0), .sc (.int .u32 0), .sc (.int .u32 0), .sc (.int .u32 0), .sc (.int .u32 0), .sc (.int .u32 0), .sc (.int .u32 0), .sc (.int .u32 0), .sc (.int .u32 0), .sc (.int .u32 0), .sc (.int .u32 0), .sc (.int .u32 0), .sc (.int .u32 0), .sc (.int .u32 0), .sc (.int .u32 0), .sc (.int .u32 0), .sc (.int .u32 0), .sc (.int .u32 0), .sc (.int .u32 0), .sc (.int .u32 0), .sc (.int .u32 0), .sc (.int .u32 0)]) ([.sc (.int .u32 0), .sc (.int .u32 0), .sc (.int .u32 0), .sc (.int .u32 0), .sc (.int .u32 0), .sc (.int .u32 0), .sc (.int .u32 0), .sc (.int .u32 0), .sc (.int .u32 0), .sc (.int .u32 0), .sc (.int .u32 0), .sc (.int .u32 0), .sc (.int .u32 0), .sc (.int .u32 0), .sc (.int .u32 0), .sc (.int .u32 0), .sc (.int .u32 0), .sc (.int .u32 0), .sc (.int .u32 0), .sc (.int .u32 0), .sc (.int .u32 0), .sc (.int .u32 0), .sc (.int .u32 0), .sc (.int .u32 0), .sc (.int .u32 0), .sc (.int .u32 0), .sc (.int .u32 0), .sc (.int .u32 0), .sc (.int .u32 0), .sc (.int .u32 0), .sc (.int .u32 0), .sc (.int .u32 0), .sc (.int .u32 0), .sc (.int .u32 0), .sc (.int .u32 0), .sc (.int .u32 0), .sc (.int .u32 0), .sc (.int .u32 0), .sc (.int .u32 0), .sc (.int .u32 0), .sc (.int .u32 0), .sc (.int .u32 0), .sc (.int .u32 0), .sc (.int .u32 0), .sc (.int .u32 0), .sc (.int .u32 0), .sc (.int .u32 0), .sc (.int .u32 0), .sc (.int .u32 0), .sc (.int .u32 0), .sc (.int .u32 0), .sc (.int .u32 0), .sc (.int .u32 0), .sc (.int .u32 0), .sc (.int .u32 0), .sc (.int .u32 0), .sc (.int .u32 0), .sc (.int .u32 0), .sc (.int .u32 0), .sc (.int .u32 0), .sc (.int .u32 0), .sc (.int .u32 0), .sc (.int .u32 0), .sc (.int .u32 0)])
theorem e122 (f : Nat) (b_z : Bool) (b_f : Bool) (b : List PV) (k : Res → Option Res) : evFn tau F122 Try.f122 (Try.f122.body.get!) (an122 (r122_0 f) (r122_1 f)) [] 0 [.ro 5 b_z b_f b] [] k = g122 f b_z b_f b k := by kernel_rfl
theorem it122 (f : Nat) : items (Try.f122.body.get!) (an122 (r122_0 f) (r122_1 f)) = [.l c122_0 nm122_0 N122 (r122_0 f), .l c122_1 nm122_1 N122 (r122_1 f)] := by kernel_rfl
theorem ia122 (f : Nat) : ∀ q ∈ items (Try.f122.body.get!) (an122 (r122_0 f) (r122_1 f)), q.Ok tau Try.prog 0 := by
  rw [it122 f]; simp only [List.forall_mem_cons, List.not_mem_nil, false_implies, implies_true, and_true]; exact ⟨i122_0 f, i122_1 f⟩
theorem fo122 : Try.prog.funcs[122]? = some Try.f122 := by kernel_rfl
theorem bo122 : Try.f122.body = some (Try.f122.body.get!) := by kernel_rfl
theorem en122 : Enters Try.prog 122 := enters_of fo122 (by kernel_rfl) bo122
end Go.Proofs.Ytcklhipdldpkhaa.Rx

-- FN sha.spread
namespace Go.Proofs.Ytcklhipdldpkhaa.Rx
open Go
set_option linter.unusedVariables false
set_option maxRecDepth 100000
set_option maxHeartbeats 4000000
abbrev ww (x : Int) : Int := IntKind.u32.wrap x
def word4 (a b c d : Int) : Int := bitI .or .u32 (bitI .or .u32 (bitI .or .u32 (shlI .u32 (ww a) 24) (shlI .u32 (ww b) 16)) (shlI .u32 (ww c) 8)) (ww d)
def sg0 (x : Int) : Int := bitI .xor .u32 (bitI .xor .u32 (rr x 7) (rr x 18)) (shrI .u32 x 3)
def sg1 (x : Int) : Int := bitI .xor .u32 (bitI .xor .u32 (rr x 17) (rr x 19)) (shrI .u32 x 10)
def nxtW (w16 w15 w7 w2 : Int) : Int := ww (ww (ww (w16 + sg0 w15) + w7) + sg1 w2)
def word (bs : List Int) (j : Nat) : Int := word4 (bs.getD (4 * j) 0) (bs.getD (4 * j + 1) 0) (bs.getD (4 * j + 2) 0) (bs.getD (4 * j + 3) 0)
def sched (bs : List Int) : Nat → List Int
  | 0 => (List.range 16).map (word bs)
  | i + 1 => sched bs i ++ [nxtW ((sched bs i).getD i 0) ((sched bs i).getD (i + 1) 0) ((sched bs i).getD (i + 9) 0) ((sched bs i).getD (i + 14) 0)]
def spreadP (bs : List Int) : List Int := sched bs 48
theorem sched_length (bs : List Int) : ∀ i, (sched bs i).length = 16 + i
  | 0 => by simp [sched]
  | i + 1 => by simp [sched, sched_length bs i]; omega
def fill0 (bs : List Int) (i : Nat) : List Int := (List.range i).map (word bs) ++ List.replicate (64 - i) 0
def fill1 (bs : List Int) (i : Nat) : List Int := sched bs i ++ List.replicate (48 - i) 0
theorem fill1_length (bs : List Int) (i : Nat) (h : i ≤ 48) : (fill1 bs i).length = 64 := by simp [fill1, sched_length]; omega
theorem set_fill (L : List Int) (m : Nat) (x : Int) : (L ++ List.replicate (m + 1) 0).set L.length x = (L ++ [x]) ++ List.replicate m 0 := by
  simp [List.replicate_succ]
theorem fill0_set (bs : List Int) (i : Nat) (h : i < 64) : (fill0 bs i).set i (word bs i) = fill0 bs (i + 1) := by
  have := set_fill ((List.range i).map (word bs)) (63 - i) (word bs i)
  simp only [List.length_map, List.length_range] at this
  simp only [fill0, show 64 - i = 63 - i + 1 from by omega, this, show 64 - (i + 1) = 63 - i from by omega, List.range_succ, List.map_append, List.map_cons, List.map_nil]
theorem fill1_get (bs : List Int) (i j : Nat) (h : j < 16 + i) : (fill1 bs i).getD j 0 = (sched bs i).getD j 0 := by
  simp only [fill1, List.getD_eq_getElem?_getD]
  rw [List.getElem?_append_left (by rw [sched_length]; exact h)]
theorem fill1_set (bs : List Int) (i : Nat) (h : i < 48) (x : Int) : (fill1 bs i).set (i + 16) x = (sched bs i ++ [x]) ++ List.replicate (48 - (i + 1)) 0 := by
  have := set_fill (sched bs i) (47 - i) x
  rw [sched_length] at this
  rw [fill1, show 48 - i = 47 - i + 1 from by omega, show i + 16 = 16 + i from by omega, this, show 48 - (i + 1) = 47 - i from by omega]
theorem l122_0 (bs : List Int) (hb : bs.length = 64) (f : Nat) (k0 : List PV → List PV → Option Res) (nl fl : Bool) (w : List PV) : ∀ (d i n : Nat), i + d = 16 → d < n →
    lp122_0 f k0 n nl fl (pu .u8 bs) (i : Int) w (pu .u32 (fill0 bs i)) = k0 w (pu .u32 (fill0 bs 16))
  | 0, i, n + 1, h, hn => by
      obtain rfl : i = 16 := by omega
      simp only [lp122_0, lpS122_0]
      exact bif_f (by decide)
  | d + 1, i, n + 1, h, hn => by
      have h4 : IntKind.i64.wrap (4 * (i : Int)) = ((4 * i : Nat) : Int) := by rw [wrap_i64 (by omega) (by omega)]; omega
      have h41 : IntKind.i64.wrap (((4 * i : Nat) : Int) + 1) = ((4 * i + 1 : Nat) : Int) := by rw [wrap_i64 (by omega) (by omega)]; omega
      have h42 : IntKind.i64.wrap (((4 * i : Nat) : Int) + 2) = ((4 * i + 2 : Nat) : Int) := by rw [wrap_i64 (by omega) (by omega)]; omega
      have h43 : IntKind.i64.wrap (((4 * i : Nat) : Int) + 3) = ((4 * i + 3 : Nat) : Int) := by rw [wrap_i64 (by omega) (by omega)]; omega
      have h5 : IntKind.i64.wrap ((i : Int) + 1) = ((i + 1 : Nat) : Int) := by rw [wrap_i64 (by omega) (by omega)]; omega
      simp only [lp122_0, lpS122_0, h4, h41, h42, h43, h5, Int.toNat_natCast, zi]
      rw [pu_isInt (by omega), pu_isInt (by omega), pu_isInt (by omega), pu_isInt (by omega), pu_int (by omega), pu_int (by omega), pu_int (by omega), pu_int (by omega), pu_length, pu_set]
      refine (bif_t (by simp; omega)).trans ?_
      refine (bif_t (by simp; omega)).trans ?_
      refine (bif_t (by simp; omega)).trans ?_
      refine (bif_t (by simp; omega)).trans ?_
      refine (bif_t (by simp; omega)).trans ?_
      refine (bif_t (by simp; omega)).trans ?_
      have := l122_0 bs hb f k0 nl fl w d (i + 1) n (by omega) (by omega)
      rw [← fill0_set bs i (by omega)] at this
      exact this
theorem l122_1 (bs : List Int) (f : Nat) (k0 : List PV → List PV → Option Res) (w : List PV) : ∀ (d i n : Nat), i + d = 48 → d < n →
    lp122_1 f k0 n ((i + 16 : Nat) : Int) w (pu .u32 (fill1 bs i)) = k0 w (pu .u32 (sched bs 48))
  | 0, i, n + 1, h, hn => by
      obtain rfl : i = 48 := by omega
      simp only [lp122_1, lpS122_1]
      exact (bif_f (by decide)).trans (by simp [fill1])
  | d + 1, i, n + 1, h, hn => by
      have h15 : IntKind.i64.wrap (((i + 16 : Nat) : Int) - 15) = ((i + 1 : Nat) : Int) := by rw [wrap_i64 (by omega) (by omega)]; omega
      have h2 : IntKind.i64.wrap (((i + 16 : Nat) : Int) - 2) = ((i + 14 : Nat) : Int) := by rw [wrap_i64 (by omega) (by omega)]; omega
      have h16 : IntKind.i64.wrap (((i + 16 : Nat) : Int) - 16) = ((i : Nat) : Int) := by rw [wrap_i64 (by omega) (by omega)]; omega
      have h7 : IntKind.i64.wrap (((i + 16 : Nat) : Int) - 7) = ((i + 9 : Nat) : Int) := by rw [wrap_i64 (by omega) (by omega)]; omega
      have h1 : IntKind.i64.wrap (((i + 16 : Nat) : Int) + 1) = ((i + 1 + 16 : Nat) : Int) := by rw [wrap_i64 (by omega) (by omega)]; omega
      have hl := fill1_length bs i (by omega)
      simp only [lp122_1, lpS122_1, h15, h2, h16, h7, h1, Int.toNat_natCast, zi, getP_ar]
      rw [pu_isInt (by omega), pu_isInt (by omega), pu_isInt (by omega), pu_isInt (by omega), pu_int (by omega), pu_int (by omega), pu_int (by omega), pu_int (by omega), pu_set]
      refine (bif_t (by simp; omega)).trans ?_
      refine (bif_t (by simp; omega)).trans ?_
      refine (bif_t (by simp)).trans ?_
      refine (bif_t (by simp; omega)).trans ?_
      refine (bif_t (by simp)).trans ?_
      refine (bif_t (by simp; omega)).trans ?_
      refine (bif_t (by simp)).trans ?_
      refine (bif_t (by simp; omega)).trans ?_
      refine (bif_t (by simp)).trans ?_
      refine (bif_t (by simp; omega)).trans ?_
      have := l122_1 bs f k0 w d (i + 1) n (by omega) (by omega)
      rw [fill1_get bs i i (by omega), fill1_get bs i (i + 1) (by omega), fill1_get bs i (i + 9) (by omega), fill1_get bs i (i + 14) (by omega), fill1_set bs i (by omega)]
      exact this
theorem g122_eq (bs : List Int) (hb : bs.length = 64) (nl fl : Bool) (k : Res → Option Res) : g122 100 nl fl (pu .u8 bs) k = k ⟨.ar 118 (pu .u32 (spreadP bs)), [], []⟩ := by
  have h0 : ∀ k0 w, lp122_0 100 k0 100 nl fl (pu .u8 bs) 0 w (pu .u32 (List.replicate 64 0)) = k0 w (pu .u32 (fill0 bs 16)) := fun k0 w => l122_0 bs hb 100 k0 nl fl w 16 0 100 (by omega) (by omega)
  have h1 : ∀ k0 w, lp122_1 100 k0 100 16 w (pu .u32 (fill0 bs 16)) = k0 w (pu .u32 (sched bs 48)) := fun k0 w => l122_1 bs 100 k0 w 48 0 100 (by omega) (by omega)
  exact (h0 _ _).trans (h1 _ _)
def run122' : List PV → List Ent → (Res → Option Res) → Option Res
  | [.ro 5 nl fl b], [], k => bif allInt .u8 b && decide (b.length = 64) then k ⟨.ar 118 (pu .u32 (spreadP (ints b))), [], []⟩ else none
  | _, _, _ => none
def s122' : Sig := { own := [], run := run122' }
theorem ok122' : CallOk tau Try.prog 122 s122' := fn_ok tabOk F122_ok mixed fo122 bo122 _ [] 0 [] run122' (ia122 100) fun xs es k res hr => by
  unfold run122' at hr
  split at hr
  · obtain ⟨hc, hr⟩ := of_bif hr
    simp only [Bool.and_eq_true, decide_eq_true_eq] at hc
    refine ⟨rfl, 0, (e122 100 _ _ _ _).trans ?_⟩
    rw [pu_ints hc.1, g122_eq _ (by simpa using hc.2)]
    exact hr
  · cases hr
end Go.Proofs.Ytcklhipdldpkhaa.Rx
