/- What the functions of this law compute, and their plain laws. Conditions: none. -/
import Derived.Test.YthpmachmnoljeaaGreatProg
import Derived.KernelRfl
import Derived.Test.YthpmachmnoljeaaGreatWaveletTurnedZ4
namespace Go.Proofs.YthpmachmnoljeaaGreat.Rx
noncomputable section
open Go
set_option linter.unusedVariables false
set_option linter.unusedSimpArgs false
set_option maxRecDepth 100000
set_option maxHeartbeats 0
abbrev JcG : List PV := [PV.sc (.int .u8 0), PV.sc (.int .u8 0), PV.sc (.int .u8 0), PV.sc (.int .u8 0), PV.sc (.int .u8 0), PV.sc (.int .u8 0), PV.sc (.int .u8 0), PV.sc (.int .u8 0), PV.sc (.int .u8 0), PV.sc (.int .u8 0), PV.sc (.int .u8 0), PV.sc (.int .u8 0), PV.sc (.int .u8 0), PV.sc (.int .u8 0), PV.sc (.int .u8 0), PV.sc (.int .u8 0), PV.sc (.int .u8 0), PV.sc (.int .u8 0), PV.sc (.int .u8 0), PV.sc (.int .u8 0), PV.sc (.int .u8 0), PV.sc (.int .u8 0), PV.sc (.int .u8 0), PV.sc (.int .u8 0), PV.sc (.int .u8 0), PV.sc (.int .u8 0), PV.sc (.int .u8 0), PV.sc (.int .u8 0), PV.sc (.int .u8 0), PV.sc (.int .u8 0), PV.sc (.int .u8 0), PV.sc (.int .u8 0)]
abbrev JCY : List PV := [PV.sc (.int .u8 0), PV.sc (.int .u8 0), PV.sc (.int .u8 0), PV.sc (.int .u8 0), PV.sc (.int .u8 0), PV.sc (.int .u8 0), PV.sc (.int .u8 0), PV.sc (.int .u8 0), PV.sc (.int .u8 0), PV.sc (.int .u8 0), PV.sc (.int .u8 0), PV.sc (.int .u8 0), PV.sc (.int .u8 0), PV.sc (.int .u8 0), PV.sc (.int .u8 0), PV.sc (.int .u8 0), PV.sc (.int .u8 0), PV.sc (.int .u8 0), PV.sc (.int .u8 0), PV.sc (.int .u8 0), PV.sc (.int .u8 0), PV.sc (.int .u8 0), PV.sc (.int .u8 0), PV.sc (.int .u8 0), PV.sc (.int .u8 0), PV.sc (.int .u8 0), PV.sc (.int .u8 0), PV.sc (.int .u8 0), PV.sc (.int .u8 0), PV.sc (.int .u8 0), PV.sc (.int .u8 0), PV.sc (.int .u8 0), PV.sc (.int .u8 0), PV.sc (.int .u8 0), PV.sc (.int .u8 0), PV.sc (.int .u8 0), PV.sc (.int .u8 0), PV.sc (.int .u8 0), PV.sc (.int .u8 0), PV.sc (.int .u8 0), PV.sc (.int .u8 0), PV.sc (.int .u8 0), PV.sc (.int .u8 0), PV.sc (.int .u8 0), PV.sc (.int .u8 0), PV.sc (.int .u8 0), PV.sc (.int .u8 0), PV.sc (.int .u8 0), PV.sc (.int .u8 0), PV.sc (.int .u8 0), PV.sc (.int .u8 0), PV.sc (.int .u8 0), PV.sc (.int .u8 0), PV.sc (.int .u8 0), PV.sc (.int .u8 0), PV.sc (.int .u8 0), PV.sc (.int .u8 0), PV.sc (.int .u8 0), PV.sc (.int .u8 0), PV.sc (.int .u8 0), PV.sc (.int .u8 0), PV.sc (.int .u8 0), PV.sc (.int .u8 0), PV.sc (.int .u8 0)]
abbrev Jo8 : List PV := [PV.sc (.int .u32 0), PV.sc (.int .u32 0), PV.sc (.int .u32 0), PV.sc (.int .u32 0), PV.sc (.int .u32 0), PV.sc (.int .u32 0), PV.sc (.int .u32 0), PV.sc (.int .u32 0), PV.sc (.int .u32 0), PV.sc (.int .u32 0), PV.sc (.int .u32 0), PV.sc (.int .u32 0), PV.sc (.int .u32 0), PV.sc (.int .u32 0), PV.sc (.int .u32 0), PV.sc (.int .u32 0), PV.sc (.int .u32 0), PV.sc (.int .u32 0), PV.sc (.int .u32 0), PV.sc (.int .u32 0), PV.sc (.int .u32 0), PV.sc (.int .u32 0), PV.sc (.int .u32 0), PV.sc (.int .u32 0), PV.sc (.int .u32 0), PV.sc (.int .u32 0), PV.sc (.int .u32 0), PV.sc (.int .u32 0), PV.sc (.int .u32 0), PV.sc (.int .u32 0), PV.sc (.int .u32 0), PV.sc (.int .u32 0), PV.sc (.int .u32 0), PV.sc (.int .u32 0), PV.sc (.int .u32 0), PV.sc (.int .u32 0), PV.sc (.int .u32 0), PV.sc (.int .u32 0), PV.sc (.int .u32 0), PV.sc (.int .u32 0), PV.sc (.int .u32 0), PV.sc (.int .u32 0), PV.sc (.int .u32 0), PV.sc (.int .u32 0), PV.sc (.int .u32 0), PV.sc (.int .u32 0), PV.sc (.int .u32 0), PV.sc (.int .u32 0), PV.sc (.int .u32 0), PV.sc (.int .u32 0), PV.sc (.int .u32 0), PV.sc (.int .u32 0), PV.sc (.int .u32 0), PV.sc (.int .u32 0), PV.sc (.int .u32 0), PV.sc (.int .u32 0), PV.sc (.int .u32 0), PV.sc (.int .u32 0), PV.sc (.int .u32 0), PV.sc (.int .u32 0), PV.sc (.int .u32 0), PV.sc (.int .u32 0), PV.sc (.int .u32 0), PV.sc (.int .u32 0)]
def tys : List TypeId := [1, 2, 3, 4, 5, 9, 12, 21, 22, 23, 24, 25, 26, 27, 28, 29, 30, 31, 32, 33, 34, 35, 36, 37, 38, 39, 40, 41, 42, 44, 45, 46, 47, 48, 49, 50, 51, 52, 53, 54, 55, 56, 57, 59, 60, 62, 63, 64, 65, 66, 67, 68, 70, 72, 73, 74, 75, 76, 77, 78, 79, 80, 81, 82, 84, 85, 86, 88, 90, 91, 92, 93, 94, 95, 96, 97, 98, 99, 100, 101, 102, 103, 104, 105, 106, 107, 108, 110, 111, 112, 113, 114, 115, 116, 117, 119, 120, 122, 124, 125, 126, 127, 129, 130, 131, 132, 133, 134, 135, 136, 137, 138, 139, 140, 141, 142, 143, 144, 145, 146, 147, 148, 149, 150, 151, 152, 153, 154, 155, 156, 157, 158, 159, 160, 162, 163, 164, 166, 168, 169, 170, 171, 172, 173, 174, 175, 176, 177, 178, 180, 181, 182, 183, 184, 185, 186, 187, 188, 190, 191, 192, 193, 194, 195, 196, 197, 198, 199, 200, 201, 202, 203, 205, 206, 207, 208, 209, 210, 211, 213, 214, 215, 216, 217, 218, 219, 220, 221, 222, 223, 224, 233]
def JN4 : TypeId -> Option PV := fun t =>
 bif [1, 35, 36, 37, 40, 44, 50, 51, 54, 55, 59, 60, 62, 63, 64, 65, 70, 72, 73, 75, 78, 84, 85, 86, 88, 90, 91, 92, 93, 94, 95, 96, 97, 98, 99, 100, 101, 102, 103, 106, 107, 108, 110, 111, 115, 116, 117, 119, 120, 122, 124, 125, 126, 127, 129, 132, 133, 134, 135, 138, 139, 140, 141, 142, 143, 145, 146, 149, 153, 154, 155, 157, 158, 159, 160, 162, 163, 164, 166, 168, 171, 172, 173, 174, 176, 177, 178, 180, 181, 182, 183, 184, 185, 187, 188, 190, 191, 192, 193, 195, 198, 199, 200, 201, 202, 203, 205, 206, 207, 208, 211, 213, 216, 217, 218, 220, 221, 222, 223, 224].elem t then some (.sc .nilFunc) else
 bif [2, 3, 57].elem t then some (.sc (.int .i64 0)) else
 bif t == 4 then some (.sc (.bool false)) else
 bif t == 5 then some (.sc (.int .u8 0)) else
 bif t == 9 then some (.sc (.string ByteArray.empty)) else
 bif [12, 151, 152].elem t then some (.sc (.int .u64 0)) else
 bif t == 21 then some (.sc (.int .i32 0)) else
 bif t == 22 then some (.ro 25 true true []) else
 bif t == 23 then some (.ro 3 true true []) else
 bif t == 24 then some (.st 24 [.sc (.int .i64 0), .sc (.int .i64 0), .sc (.int .i64 0), .ro 3 true true []]) else
 bif t == 25 then some (.st 25 [.sc (.int .i64 0), .sc (.int .i64 0), .sc (.int .i64 0), .ro 3 true true []]) else
 bif t == 26 then some (.ro 5 true true []) else
 bif t == 27 then some (.ar 27 (List.replicate 32 (.sc (.int .u8 0)))) else
 bif t == 28 then some (.ar 28 (List.replicate 32 (.sc (.int .u8 0)))) else
 bif t == 29 then some (.st 29 [.ro 5 true true [], .ar 28 (List.replicate 32 (.sc (.int .u8 0)))]) else
 bif t == 30 then some (.st 30 [.ro 5 true true [], .ar 28 (List.replicate 32 (.sc (.int .u8 0)))]) else
 bif [31, 32].elem t then some (.ro 53 true true []) else
 bif t == 33 then some (.st 33 [.st 30 [.ro 5 true true [], .ar 28 (List.replicate 32 (.sc (.int .u8 0)))], .sc (.int .i64 0), .ro 53 true true [], .ar 28 (List.replicate 32 (.sc (.int .u8 0))), .ar 28 (List.replicate 32 (.sc (.int .u8 0)))]) else
 bif t == 34 then some (.st 34 [.st 30 [.ro 5 true true [], .ar 28 (List.replicate 32 (.sc (.int .u8 0)))], .sc (.int .i64 0), .ro 53 true true [], .ar 28 (List.replicate 32 (.sc (.int .u8 0))), .ar 28 (List.replicate 32 (.sc (.int .u8 0)))]) else
 bif t == 38 then some (.st 38 (List.replicate 3 (.ro 5 true true []))) else
 bif t == 39 then some (.st 39 (List.replicate 3 (.ro 5 true true []))) else
 bif t == 41 then some (.ro 34 true true []) else
 bif t == 42 then some (.ro 49 true true []) else
 bif t == 45 then some (.st 45 [.sc (.int .i64 0), .sc (.int .i64 0)]) else
 bif t == 46 then some (.st 46 [.sc (.int .i64 0), .sc (.int .i64 0)]) else
 bif t == 47 then some (.ro 67 true true []) else
 bif t == 48 then some (.st 48 [.st 46 [.sc (.int .i64 0), .sc (.int .i64 0)], .sc (.string ByteArray.empty), .ro 67 true true [], .sc (.int .i64 0), .ar 28 (List.replicate 32 (.sc (.int .u8 0)))]) else
 bif t == 49 then some (.st 49 [.st 46 [.sc (.int .i64 0), .sc (.int .i64 0)], .sc (.string ByteArray.empty), .ro 67 true true [], .sc (.int .i64 0), .ar 28 (List.replicate 32 (.sc (.int .u8 0)))]) else
 bif t == 52 then some (.st 52 [.sc (.int .i64 0), .sc (.int .i64 0), .sc (.string ByteArray.empty)]) else
 bif t == 53 then some (.st 53 [.sc (.int .i64 0), .sc (.int .i64 0), .sc (.string ByteArray.empty)]) else
 bif t == 56 then some (.st 56 [.st 46 [.sc (.int .i64 0), .sc (.int .i64 0)], .sc (.string ByteArray.empty), .ro 67 true true [], .sc (.int .i64 0), .ar 28 (List.replicate 32 (.sc (.int .u8 0)))]) else
 bif t == 66 then some (.st 66 [.sc (.int .i64 0), .sc (.int .i64 0)]) else
 bif t == 67 then some (.st 67 [.sc (.int .i64 0), .sc (.int .i64 0)]) else
 bif t == 68 then some (.ro 56 true true []) else
 bif t == 74 then some (.ro 131 true true []) else
 bif t == 76 then some (.st 76 [.ro 49 true true [], .ro 34 true true []]) else
 bif t == 77 then some (.st 77 [.ro 49 true true [], .ro 34 true true []]) else
 bif t == 79 then some (.st 79 [.st 56 [.st 46 [.sc (.int .i64 0), .sc (.int .i64 0)], .sc (.string ByteArray.empty), .ro 67 true true [], .sc (.int .i64 0), .ar 28 (List.replicate 32 (.sc (.int .u8 0)))], .ro 34 true true [], .ro 34 true true []]) else
 bif t == 80 then some (.st 80 [.st 56 [.st 46 [.sc (.int .i64 0), .sc (.int .i64 0)], .sc (.string ByteArray.empty), .ro 67 true true [], .sc (.int .i64 0), .ar 28 (List.replicate 32 (.sc (.int .u8 0)))], .ro 34 true true [], .ro 34 true true []]) else
 bif t == 81 then some (.st 81 [.st 49 [.st 46 [.sc (.int .i64 0), .sc (.int .i64 0)], .sc (.string ByteArray.empty), .ro 67 true true [], .sc (.int .i64 0), .ar 28 (List.replicate 32 (.sc (.int .u8 0)))], .ro 34 true true [], .ro 34 true true []]) else
 bif t == 82 then some (.st 82 [.st 49 [.st 46 [.sc (.int .i64 0), .sc (.int .i64 0)], .sc (.string ByteArray.empty), .ro 67 true true [], .sc (.int .i64 0), .ar 28 (List.replicate 32 (.sc (.int .u8 0)))], .ro 34 true true [], .ro 34 true true []]) else
 bif t == 104 then some (.st 104 [.st 67 [.sc (.int .i64 0), .sc (.int .i64 0)], .sc (.int .i64 0), .sc (.int .i64 0), .ar 28 (List.replicate 32 (.sc (.int .u8 0))), .sc (.int .i64 0), .ro 53 true true [], .st 67 [.sc (.int .i64 0), .sc (.int .i64 0)]]) else
 bif t == 105 then some (.st 105 [.st 67 [.sc (.int .i64 0), .sc (.int .i64 0)], .sc (.int .i64 0), .sc (.int .i64 0), .ar 28 (List.replicate 32 (.sc (.int .u8 0))), .sc (.int .i64 0), .ro 53 true true [], .st 67 [.sc (.int .i64 0), .sc (.int .i64 0)]]) else
 bif [112, 156, 175, 194, 233].elem t then some (.sc (.pointer none)) else
 bif t == 113 then some (.st 113 [.st 56 [.st 46 [.sc (.int .i64 0), .sc (.int .i64 0)], .sc (.string ByteArray.empty), .ro 67 true true [], .sc (.int .i64 0), .ar 28 (List.replicate 32 (.sc (.int .u8 0)))], .st 105 [.st 67 [.sc (.int .i64 0), .sc (.int .i64 0)], .sc (.int .i64 0), .sc (.int .i64 0), .ar 28 (List.replicate 32 (.sc (.int .u8 0))), .sc (.int .i64 0), .ro 53 true true [], .st 67 [.sc (.int .i64 0), .sc (.int .i64 0)]]]) else
 bif t == 114 then some (.st 114 [.st 56 [.st 46 [.sc (.int .i64 0), .sc (.int .i64 0)], .sc (.string ByteArray.empty), .ro 67 true true [], .sc (.int .i64 0), .ar 28 (List.replicate 32 (.sc (.int .u8 0)))], .st 105 [.st 67 [.sc (.int .i64 0), .sc (.int .i64 0)], .sc (.int .i64 0), .sc (.int .i64 0), .ar 28 (List.replicate 32 (.sc (.int .u8 0))), .sc (.int .i64 0), .ro 53 true true [], .st 67 [.sc (.int .i64 0), .sc (.int .i64 0)]]]) else
 bif t == 130 then some (.st 130 [.sc (.int .i64 0), .sc (.int .i64 0), .st 25 [.sc (.int .i64 0), .sc (.int .i64 0), .sc (.int .i64 0), .ro 3 true true []]]) else
 bif t == 131 then some (.st 131 [.sc (.int .i64 0), .sc (.int .i64 0), .st 25 [.sc (.int .i64 0), .sc (.int .i64 0), .sc (.int .i64 0), .ro 3 true true []]]) else
 bif t == 136 then some (.sc (.complex .f64 0 0)) else
 bif t == 137 then some (.sc (.float .f64 0)) else
 bif t == 144 then some (.ro 136 true true []) else
 bif t == 147 then some (.sc (.int .u32 0)) else
 bif t == 148 then some (.ar 148 (List.replicate 64 (.sc (.int .u32 0)))) else
 bif t == 150 then some (.ar 150 (List.replicate 8 (.sc (.int .u32 0)))) else
 bif t == 169 then some (.ro 26 true true []) else
 bif t == 170 then some (.ar 170 (List.replicate 8 (.sc (.int .u32 0)))) else
 bif t == 186 then some (.ro 32 true true []) else
 bif t == 196 then some (.st 196 [.ro 5 true true [], .sc (.int .i64 0)]) else
 bif t == 197 then some (.st 197 [.ro 5 true true [], .sc (.int .i64 0)]) else
 bif t == 209 then some (.st 209 [.ro 5 true true [], .sc (.int .i64 0), .sc (.int .i64 0)]) else
 bif t == 210 then some (.st 210 [.ro 5 true true [], .sc (.int .i64 0), .sc (.int .i64 0)]) else
 bif t == 214 then some (.ar 214 (List.replicate 64 (.sc (.int .u8 0)))) else
 bif t == 215 then some (.ar 215 (List.replicate 64 (.sc (.int .u8 0)))) else
 bif t == 219 then some (.ro 47 true true []) else
 none
def tau : Tab := JaL Tryz.prog tys JN4
theorem Jn : TabOk tau Tryz.prog := Jsl (by kernel_rfl)
theorem Jo : Tryz.prog.follows .mixedOrders = true := by kernel_rfl
abbrev OR := Option Res
abbrev KR := Res -> OR
abbrev Jy := List PV -> List Ent -> (Res -> Option Res) -> Option Res
theorem Jv {c : Code} {an : An} {np : Nat} (h : Jf c an = []) : ∀ q ∈ Jf c an, q.Ok tau Tryz.prog np := fun q hq => by rw [h] at hq; cases hq
theorem JJ {a : Item} {l : List Item} {np : Nat} (h : a.Ok tau Tryz.prog np) (h2 : ∀ q ∈ l, q.Ok tau Tryz.prog np) : ∀ q ∈ a :: l, q.Ok tau Tryz.prog np := List.forall_mem_cons.2 ⟨h, h2⟩
def F0 : Fns := fun _ => none
theorem Js : Jp tau Tryz.prog F0 := fun g sg h => by cases h
def JHk : Fns := F0
theorem JwX : Jp tau Tryz.prog JHk := Js
def Jsp : An := (.seq .leaf (.seq .leaf (.seq .leaf .leaf)))
def JHl (f : Nat) (x k1 : Int) (k : KR) : OR := bif decide (0 <= IntKind.u64.wrap (32 - JL BinOp.and IntKind.u64 (IntKind.u64.wrap k1) 31)) && true then k (Res.mk (.sc (.int .u32 (JL BinOp.or IntKind.u32 (XB IntKind.u32 x (JL BinOp.and IntKind.u64 (IntKind.u64.wrap k1) 31)) (JV IntKind.u32 x (IntKind.u64.wrap (32 - JL BinOp.and IntKind.u64 (IntKind.u64.wrap k1) 31)))))) [] []) else none
theorem JN5 (f : Nat) (x k1 : Int) (k : KR) : JI tau JHk Tryz.f151 (Tryz.f151.body.get!) Jsp [.ro] 0 [.sc (.int .u32 x), .sc (.int .i64 k1)] [] k = JHl f x k1 k := by kernel_rfl
theorem JHm (f : Nat) : ∀ q ∈ Jf (Tryz.f151.body.get!) Jsp, q.Ok tau Tryz.prog 0 := Jv (by kernel_rfl)
theorem Jz8 : Tryz.prog.funcs[151]? = some Tryz.f151 := by kernel_rfl
theorem Jz9 : Tryz.f151.body = some (Tryz.f151.body.get!) := by kernel_rfl
theorem JHn : Enters Tryz.prog 151 := enters_of Jz8 (by kernel_rfl) Jz9
def Jl0 : Jy
 | [.sc (.int .u32 x), .sc (.int .i64 k1)], [], k => JHl 0 x k1 k
 | _, _, _ => none
def JHo : Sig := { own := [], run := Jl0 }
theorem JHp : Jc tau Tryz.prog 151 JHo := JN Jn JwX Jo Jz8 Jz9 Jsp [.ro] 0 [] Jl0 (JHm 0) fun xs es k res hr => by
 unfold Jl0 at hr
 split at hr
 · exact ⟨rfl, 0, (JN5 0 _ _  _).trans hr⟩
 · cases hr
def JHq : Fns := Jr 151 JHo (F0)
theorem JwY : Jp tau Tryz.prog JHq := (Js).add JHp JHn
def Jsq : An := (.seq .leaf (.seq .leaf .leaf))
def JwZ (f : Nat) (x n : Int) (k : KR) : OR := bif decide (0 <= IntKind.u64.wrap (32 - JL BinOp.and IntKind.u64 (IntKind.u64.wrap (IntKind.i64.wrap (0 - n))) 31)) && true then k (Res.mk (.sc (.int .u32 (JL BinOp.or IntKind.u32 (XB IntKind.u32 x (JL BinOp.and IntKind.u64 (IntKind.u64.wrap (IntKind.i64.wrap (0 - n))) 31)) (JV IntKind.u32 x (IntKind.u64.wrap (32 - JL BinOp.and IntKind.u64 (IntKind.u64.wrap (IntKind.i64.wrap (0 - n))) 31)))))) [] []) else none
theorem JN6 (f : Nat) (x n : Int) (k : KR) : JI tau JHq Tryz.f142 (Tryz.f142.body.get!) Jsq [.ro] 0 [.sc (.int .u32 x), .sc (.int .i64 n)] [] k = JwZ f x n k := by kernel_rfl
theorem JHr (f : Nat) : ∀ q ∈ Jf (Tryz.f142.body.get!) Jsq, q.Ok tau Tryz.prog 0 := Jv (by kernel_rfl)
theorem JAa : Tryz.prog.funcs[142]? = some Tryz.f142 := by kernel_rfl
theorem JAb : Tryz.f142.body = some (Tryz.f142.body.get!) := by kernel_rfl
theorem JAc : Enters Tryz.prog 142 := enters_of JAa (by kernel_rfl) JAb
def Jl1 : Jy
 | [.sc (.int .u32 x), .sc (.int .i64 n)], [], k => JwZ 0 x n k
 | _, _, _ => none
def JN7 : Sig := { own := [], run := Jl1 }
theorem JHs : Jc tau Tryz.prog 142 JN7 := JN Jn JwY Jo JAa JAb Jsq [.ro] 0 [] Jl1 (JHr 0) fun xs es k res hr => by
 unfold Jl1 at hr
 split at hr
 · exact ⟨rfl, 0, (JN6 0 _ _  _).trans hr⟩
 · cases hr
def F79 : Fns := F0
theorem JCZ : Jp tau Tryz.prog F79 := Js
def JC0 : An := (.seq .leaf (.seq .leaf .leaf))
def g79 (f : Nat) (x n : Int) (k : KR) : OR := bif decide (0 <= n) && true then bif decide (0 <= IntKind.u64.wrap (32 - n)) && true then k (Res.mk (.sc (.int .u32 (JL BinOp.or IntKind.u32 (JV IntKind.u32 x n) (XB IntKind.u32 x (IntKind.u64.wrap (32 - n)))))) [] []) else none else none
theorem e79 (f : Nat) (x n : Int) (k : KR) : JI tau F79 Tryz.f79 (Tryz.f79.body.get!) JC0 [.ro] 0 [.sc (.int .u32 x), .sc (.int .u64 n)] [] k = g79 f x n k := by kernel_rfl
theorem JN8 (f : Nat) : ∀ q ∈ Jf (Tryz.f79.body.get!) JC0, q.Ok tau Tryz.prog 0 := Jv (by kernel_rfl)
theorem JHt : Tryz.prog.funcs[79]? = some Tryz.f79 := by kernel_rfl
theorem JHu : Tryz.f79.body = some (Tryz.f79.body.get!) := by kernel_rfl
theorem JN9 : Enters Tryz.prog 79 := enters_of JHt (by kernel_rfl) JHu
def Jsr : Jy
 | [.sc (.int .u32 x), .sc (.int .u64 n)], [], k => g79 0 x n k
 | _, _, _ => none
def s79 : Sig := { own := [], run := Jsr }
theorem JOa : Jc tau Tryz.prog 79 s79 := JN Jn JCZ Jo JHt JHu JC0 [.ro] 0 [] Jsr (JN8 0) fun xs es k res hr => by
 unfold Jsr at hr
 split at hr
 · exact ⟨rfl, 0, (e79 0 _ _  _).trans hr⟩
 · cases hr
def rr (x n : Int) : Int := JL .or .u32 (XB .u32 x (32 - n)) (JV .u32 x n)
theorem JhI (x y : Int) : JL .or .u32 x y = JL .or .u32 y x := by
 simp only [JL]; rw [BitVec.or_comm]
theorem Jss {P : Int -> Prop} (h : ∀ m : Nat, m < 31 -> P ((m : Int) + 1)) (n : Int) (h1 : 1 <= n) (h2 : n <= 31) : P n := by
 have := h (n - 1).toNat (by omega)
 have he : (((n - 1).toNat : Nat) : Int) + 1 = n := by omega
 rwa [he] at this
def JhJ : Jy
 | [.sc (.int .u32 x), .sc (.int .i64 n)], [], k => bif decide (1 <= n) && decide (n <= 31) then k ⟨.sc (.int .u32 (rr x n)), [], []⟩ else none
 | _, _, _ => none
def Jst : Sig := { own := [], run := JhJ }
theorem Jl2 (x : Int) (k : KR) (n : Int) (h1 : 1 <= n) (h2 : n <= 31) : JwZ 0 x n k = k ⟨.sc (.int .u32 (rr x n)), [], []⟩ := by
 refine Jss (P := fun n => JwZ 0 x n k = k ⟨.sc (.int .u32 (rr x n)), [], []⟩) ?_ n h1 h2
 intro m hm
 iterate 31 (rcases m with _ | m; · kernel_rfl)
 omega
theorem Jsu : Jc tau Tryz.prog 142 Jst := JHs.of fun xs es k res hr => by
 change JhJ xs es k = some res at hr
 unfold JhJ at hr
 split at hr
 · obtain ⟨hc, hr⟩ := Ju hr
   simp only [Bool.and_eq_true, decide_eq_true_eq] at hc
   exact (Jl2 _ _ _ hc.1 hc.2).trans hr
 · cases hr
def Jl3 : Jy
 | [.sc (.int .u32 x), .sc (.int .u64 n)], [], k => bif decide (1 <= n) && decide (n <= 31) then k ⟨.sc (.int .u32 (rr x n)), [], []⟩ else none
 | _, _, _ => none
def JHv : Sig := { own := [], run := Jl3 }
theorem JrA (x : Int) (k : KR) (n : Int) (h1 : 1 <= n) (h2 : n <= 31) : g79 0 x n k = k ⟨.sc (.int .u32 (rr x n)), [], []⟩ := by
 have hc : ∀ n, rr x n = JL .or .u32 (JV .u32 x n) (XB .u32 x (32 - n)) := fun n => JhI _ _
 rw [hc]
 refine Jss (P := fun n => g79 0 x n k = k ⟨.sc (.int .u32 (JL .or .u32 (JV .u32 x n) (XB .u32 x (32 - n)))), [], []⟩) ?_ n h1 h2
 intro m hm
 iterate 31 (rcases m with _ | m; · kernel_rfl)
 omega
theorem JHw : Jc tau Tryz.prog 79 JHv := JOa.of fun xs es k res hr => by
 change Jl3 xs es k = some res at hr
 unfold Jl3 at hr
 split at hr
 · obtain ⟨hc, hr⟩ := Ju hr
   simp only [Bool.and_eq_true, decide_eq_true_eq] at hc
   exact (JrA _ _ _ hc.1 hc.2).trans hr
 · cases hr
def Jgh : Nat := 89
def Jw0 : Fns := Jr 142 Jst (F0)
theorem JhK : Jp tau Tryz.prog Jw0 := (Js).add Jsu JAc
def JhL : Code := Qd (Tryz.f140.body.get!) [1, 1, 0, 1, 0, 0]
def JaN : Nm := [(0, .any), (2, .any), (3, .any), (8, .any)]
def JhM : Nm := [(2, .any), (3, .any)]
def Jl4 : An := (.seq .leaf (.seq (.cond .leaf .leaf) (.seq (.block none (.seq .leaf .leaf)) .leaf)))
def JhN : Code := Qd (Tryz.f140.body.get!) [1, 1, 1, 0, 1, 0, 0]
def JaO : Nm := [(2, .any), (3, .any), (5, .any)]
def JhO : Nm := [(2, .any), (3, .any)]
def Jl5 : An := (.seq (.seq .leaf (.cond .leaf .leaf)) (.seq (.block none (.seq .leaf .leaf)) .leaf))
def Jsv (r0 : Qt) (r1 : Qt) : An := (.seq .leaf (.seq .leaf (.seq (.seq .leaf (.block none (.sum JaN Jgh r0))) (.seq (.seq .leaf (.block none (.sum JaO Jgh r1))) (.seq .leaf .leaf)))))
abbrev Jo9 := Bool -> Bool -> List PV -> Int -> List PV -> List PV -> OR
def Vd (f : Nat) (rc : Jo9) (k0 : List PV -> List PV -> OR) (v0 v1 : Bool) (v2 : List PV) (v3 : Int) (v4 v5 : List PV) : OR := bif decide (v3 < 16) then bif decide (0 <= IntKind.i64.wrap (4 * v3)) && decide (IntKind.i64.wrap (4 * v3) < zi v2.length) && PV.isInt IntKind.u8 (v2.getD (IntKind.i64.wrap (4 * v3)).toNat PV.top) && true then bif decide (0 <= IntKind.i64.wrap (IntKind.i64.wrap (4 * v3) + 1)) && decide (IntKind.i64.wrap (IntKind.i64.wrap (4 * v3) + 1) < zi v2.length) && PV.isInt IntKind.u8 (v2.getD (IntKind.i64.wrap (IntKind.i64.wrap (4 * v3) + 1)).toNat PV.top) && true then bif decide (0 <= IntKind.i64.wrap (IntKind.i64.wrap (4 * v3) + 2)) && decide (IntKind.i64.wrap (IntKind.i64.wrap (4 * v3) + 2) < zi v2.length) && PV.isInt IntKind.u8 (v2.getD (IntKind.i64.wrap (IntKind.i64.wrap (4 * v3) + 2)).toNat PV.top) && true then bif decide (0 <= IntKind.i64.wrap (IntKind.i64.wrap (4 * v3) + 3)) && decide (IntKind.i64.wrap (IntKind.i64.wrap (4 * v3) + 3) < zi v2.length) && PV.isInt IntKind.u8 (v2.getD (IntKind.i64.wrap (IntKind.i64.wrap (4 * v3) + 3)).toNat PV.top) && true then bif decide (0 <= v3) && decide (v3 < zi 64) && true then rc v0 v1 v2 (IntKind.i64.wrap (v3 + 1)) v4 (v5.set v3.toNat (.sc (.int .u32 (JL BinOp.or IntKind.u32 (JL BinOp.or IntKind.u32 (JL BinOp.or IntKind.u32 (XB IntKind.u32 (IntKind.u32.wrap (v2.getD (IntKind.i64.wrap (4 * v3)).toNat PV.top).int) 24) (XB IntKind.u32 (IntKind.u32.wrap (v2.getD (IntKind.i64.wrap (IntKind.i64.wrap (4 * v3) + 1)).toNat PV.top).int) 16)) (XB IntKind.u32 (IntKind.u32.wrap (v2.getD (IntKind.i64.wrap (IntKind.i64.wrap (4 * v3) + 2)).toNat PV.top).int) 8)) (IntKind.u32.wrap (v2.getD (IntKind.i64.wrap (IntKind.i64.wrap (4 * v3) + 3)).toNat PV.top).int))))) else none else none else none else none else none else k0 v4 v5
def Ym (f : Nat) (k0 : List PV -> List PV -> OR) : Nat -> Jo9
 | 0 => fun _ _ _ _ _ _ => none
 | n + 1 => Vd f (Ym f k0 n) k0
def VZ (k : Kont) := fun x0 x1 => k (Ex.exit 0) (Ji JhM Jgh [.ptr 1440 [], .ptr 1441 []] [(1440, .box false 148 (PV.ar 148 x0)), (1441, .box false 148 (PV.ar 148 x1))])
def JhP (f : Nat) (k : Kont) (n : Nat) (v0 v1 : Bool) (v2 : List PV) (v3 : Int) (v4 v5 : List PV) : OR := Jx tau 0 JaN (fun s k => ev tau Jw0 0 0 JhL (Jl4 ) s k) n (Ji JaN Jgh [.ro 5 v0 v1 v2, .ptr 1440 [], .ptr 1441 [], .sc (.int .i64 v3)] [(1440, .box false 148 (PV.ar 148 v4)), (1441, .box false 148 (PV.ar 148 v5))]) (JG tau 0 JhM k)
theorem Jsw (f : Nat) (k : Kont) (n : Nat) : JhP f k (n + 1) = Vd f (JhP f k n) (VZ k) := by kernel_rfl
theorem Jkn (f : Nat) (k : Kont) : ∀ n, JhP f k n = Ym f (VZ k) n
 | 0 => rfl
 | n + 1 => (Jsw f k n).trans (congrArg (fun r => Vd f r (VZ k)) (Jkn f k n))
def JcH (f : Nat) : List PV -> List (Nat × Ent) -> Kont -> OR
 | [.ro 5 v0 v1 v2, .ptr 1440 [], .ptr 1441 [],
 PV.sc
  (Value.int IntKind.i64
   v3)], [(1440, .box false 148 (PV.ar 148 v4)),
 (1441,
  Ent.box false 148
   (PV.ar 148
    v5))], k => Ym f (VZ k) f v0 v1 v2 v3 v4 v5
 | _, _, _ => none
theorem Jw1 (f : Nat) : Jf JhL Jl4 = [] := by kernel_rfl
theorem Jw2 (f : Nat) : (Item.l JhL JaN Jgh (JcH f)).Ok tau Tryz.prog 0 := Jt Jn JhK Jo (x := Jl4) (nm2 := JhM) (Jl _ _ (by rw [Jw1 f]; intro q hq; cases hq)) fun vs hp k res hr => by
 unfold JcH at hr
 split at hr
 · rw [← Jkn f] at hr; exact ⟨f, 0, hr⟩
 · cases hr
abbrev Jpa := Int -> List PV -> List PV -> OR
abbrev Wt (v0 : Int) (v2 : List PV) := (Jq (PV.ar 148 v2) [(IntKind.i64.wrap (v0 - 15)).toNat])
abbrev Wu (v0 : Int) (v2 : List PV) := (Jq (PV.ar 148 v2) [(IntKind.i64.wrap (v0 - 2)).toNat])
def Ve (f : Nat) (rc : Jpa) (k0 : List PV -> List PV -> OR) (v0 : Int) (v1 v2 : List PV) : OR := bif decide (v0 < 64) then bif decide (0 <= IntKind.i64.wrap (v0 - 15)) && decide (IntKind.i64.wrap (v0 - 15) < zi 64) && true then bif PV.isInt IntKind.u32 (Wt v0 v2) && true then bif decide (0 <= IntKind.i64.wrap (v0 - 2)) && decide (IntKind.i64.wrap (v0 - 2) < zi 64) && true then bif PV.isInt IntKind.u32 (Wu v0 v2) && true then bif decide (0 <= IntKind.i64.wrap (v0 - 16)) && decide (IntKind.i64.wrap (v0 - 16) < zi 64) && true then bif PV.isInt IntKind.u32 (Jq (PV.ar 148 v2) [(IntKind.i64.wrap (v0 - 16)).toNat]) && true then bif decide (0 <= IntKind.i64.wrap (v0 - 7)) && decide (IntKind.i64.wrap (v0 - 7) < zi 64) && true then bif PV.isInt IntKind.u32 (Jq (PV.ar 148 v2) [(IntKind.i64.wrap (v0 - 7)).toNat]) && true then bif decide (0 <= v0) && decide (v0 < zi 64) && true then rc (IntKind.i64.wrap (v0 + 1)) v1 (v2.set v0.toNat (.sc (.int .u32 (IntKind.u32.wrap (IntKind.u32.wrap (IntKind.u32.wrap ((Jq (PV.ar 148 v2) [(IntKind.i64.wrap (v0 - 16)).toNat]).int + JL BinOp.xor IntKind.u32 (JL BinOp.xor IntKind.u32 (rr (Wt v0 v2).int 7) (rr (Wt v0 v2).int 18)) (JV IntKind.u32 (Wt v0 v2).int 3)) + (Jq (PV.ar 148 v2) [(IntKind.i64.wrap (v0 - 7)).toNat]).int) + JL BinOp.xor IntKind.u32 (JL BinOp.xor IntKind.u32 (rr (Wu v0 v2).int 17) (rr (Wu v0 v2).int 19)) (JV IntKind.u32 (Wu v0 v2).int 10)))))) else none else none else none else none else none else none else none else none else none else k0 v1 v2
def Yn (f : Nat) (k0 : List PV -> List PV -> OR) : Nat -> Jpa
 | 0 => fun _ _ _ => none
 | n + 1 => Ve f (Yn f k0 n) k0
def V0 (k : Kont) := fun x0 x1 => k (Ex.exit 2) (Ji JhO Jgh [.ptr 1440 [], .ptr 1441 []] [(1440, .box false 148 (PV.ar 148 x0)), (1441, .box false 148 (PV.ar 148 x1))])
def JhQ (f : Nat) (k : Kont) (n : Nat) (v0 : Int) (v1 v2 : List PV) : OR := Jx tau 0 JaO (fun s k => ev tau Jw0 0 0 JhN (Jl5 ) s k) n (Ji JaO Jgh [.ptr 1440 [], .ptr 1441 [], .sc (.int .i64 v0)] [(1440, .box false 148 (PV.ar 148 v1)), (1441, .box false 148 (PV.ar 148 v2))]) (JG tau 0 JhO k)
theorem Jsx (f : Nat) (k : Kont) (n : Nat) : JhQ f k (n + 1) = Ve f (JhQ f k n) (V0 k) := by kernel_rfl
theorem Jko (f : Nat) (k : Kont) : ∀ n, JhQ f k n = Yn f (V0 k) n
 | 0 => rfl
 | n + 1 => (Jsx f k n).trans (congrArg (fun r => Ve f r (V0 k)) (Jko f k n))
def JcI (f : Nat) : List PV -> List (Nat × Ent) -> Kont -> OR
 | [.ptr 1440 [], .ptr 1441 [],
 PV.sc
  (Value.int IntKind.i64
   v0)], [(1440, .box false 148 (PV.ar 148 v1)),
 (1441,
  Ent.box false 148
   (PV.ar 148
    v2))], k => Yn f (V0 k) f v0 v1 v2
 | _, _, _ => none
theorem Jw3 (f : Nat) : Jf JhN Jl5 = [] := by kernel_rfl
theorem Jw4 (f : Nat) : (Item.l JhN JaO Jgh (JcI f)).Ok tau Tryz.prog 0 := Jt Jn JhK Jo (x := Jl5) (nm2 := JhO) (Jl _ _ (by rw [Jw3 f]; intro q hq; cases hq)) fun vs hp k res hr => by
 unfold JcI at hr
 split at hr
 · rw [← Jko f] at hr; exact ⟨f, 0, hr⟩
 · cases hr
abbrev Jpb := (Jo8)
def JHx (f : Nat) (b_z b_f : Bool) (b : List PV) (k : KR) : OR := Ym f (fun x0_0 x1_0 => Yn f (fun _ x1_1 => k (Res.mk (.ar 148 x1_1) [] [])) f (16) x0_0 x1_0) f b_z b_f b (0) Jpb Jpb
theorem JOb (f : Nat) (b_z b_f : Bool) (b : List PV) (k : KR) : JI tau Jw0 Tryz.f140 (Tryz.f140.body.get!) (Jsv (JcH f) (JcI f)) [] 0 [.ro 5 b_z b_f b] [] k = JHx f b_z b_f b k := by kernel_rfl
theorem JHy (f : Nat) : Jf (Tryz.f140.body.get!) (Jsv (JcH f) (JcI f)) = [.l JhL JaN Jgh (JcH f), .l JhN JaO Jgh (JcI f)] := by kernel_rfl
theorem JHz (f : Nat) : ∀ q ∈ Jf (Tryz.f140.body.get!) (Jsv (JcH f) (JcI f)), q.Ok tau Tryz.prog 0 := by rw [JHy f]; exact JJ (Jw2 f) (JJ (Jw4 f) (fun _ h => nomatch h))
theorem JAd : Tryz.prog.funcs[140]? = some Tryz.f140 := by kernel_rfl
theorem JAe : Tryz.f140.body = some (Tryz.f140.body.get!) := by kernel_rfl
theorem JHA : Enters Tryz.prog 140 := enters_of JAd (by kernel_rfl) JAe
abbrev ww (x : Int) : Int := IntKind.u32.wrap x
def JHB (a b c d : Int) : Int := JL .or .u32 (JL .or .u32 (JL .or .u32 (XB .u32 (ww a) 24) (XB .u32 (ww b) 16)) (XB .u32 (ww c) 8)) (ww d)
def sg0 (x : Int) : Int := JL .xor .u32 (JL .xor .u32 (rr x 7) (rr x 18)) (JV .u32 x 3)
def sg1 (x : Int) : Int := JL .xor .u32 (JL .xor .u32 (rr x 17) (rr x 19)) (JV .u32 x 10)
def JC1 (w16 w15 w7 w2 : Int) : Int := ww (ww (ww (w16 + sg0 w15) + w7) + sg1 w2)
def word (bs : List Int) (j : Nat) : Int := JHB (bs.getD (4 * j) 0) (bs.getD (4 * j + 1) 0) (bs.getD (4 * j + 2) 0) (bs.getD (4 * j + 3) 0)
def QY (bs : List Int) : Nat -> List Int
 | 0 => (List.range 16).map (word bs)
 | i + 1 => QY bs i ++ [JC1 ((QY bs i).getD i 0) ((QY bs i).getD (i + 1) 0) ((QY bs i).getD (i + 9) 0) ((QY bs i).getD (i + 14) 0)]
def Qr (bs : List Int) : List Int := QY bs 48
theorem Qf (bs : List Int) : ∀ i, (QY bs i).length = 16 + i
 | 0 => by simp [QY]
 | i + 1 => by simp [QY, Qf bs i]; omega
def JeH (bs : List Int) (i : Nat) : List Int := (List.range i).map (word bs) ++ List.replicate (64 - i) 0
def Jdp (bs : List Int) (i : Nat) : List Int := QY bs i ++ List.replicate (48 - i) 0
theorem JhR (bs : List Int) (i : Nat) (h : i <= 48) : (Jdp bs i).length = 64 := by simp [Jdp, Qf]; omega
theorem Jkp (L : List Int) (m : Nat) (x : Int) : (L ++ List.replicate (m + 1) 0).set L.length x = (L ++ [x]) ++ List.replicate m 0 := by
 simp [List.replicate_succ]
theorem JrB (bs : List Int) (i : Nat) (h : i < 64) : (JeH bs i).set i (word bs i) = JeH bs (i + 1) := by
 have := Jkp ((List.range i).map (word bs)) (63 - i) (word bs i)
 simp only [List.length_map, List.length_range] at this
 simp only [JeH, show 64 - i = 63 - i + 1 from by omega, this, show 64 - (i + 1) = 63 - i from by omega, List.range_succ, List.map_append, List.map_cons, List.map_nil]
theorem V1 (bs : List Int) (i j : Nat) (h : j < 16 + i) : (Jdp bs i).getD j 0 = (QY bs i).getD j 0 := by
 simp only [Jdp, List.getD_eq_getElem?_getD]
 rw [List.getElem?_append_left (by rw [Qf]; exact h)]
theorem JrC (bs : List Int) (i : Nat) (h : i < 48) (x : Int) : (Jdp bs i).set (i + 16) x = (QY bs i ++ [x]) ++ List.replicate (48 - (i + 1)) 0 := by
 have := Jkp (QY bs i) (47 - i) x
 rw [Qf] at this
 rw [Jdp, show 48 - i = 47 - i + 1 from by omega, show i + 16 = 16 + i from by omega, this, show 48 - (i + 1) = 47 - i from by omega]
theorem Jsy (bs : List Int) (hb : bs.length = 64) (f : Nat) (k0 : List PV -> List PV -> OR) (nl fl : Bool) (w : List PV) : ∀ (d i n : Nat), i + d = 16 -> d < n ->
  Ym f k0 n nl fl (pu .u8 bs) (i : Int) w (pu .u32 (JeH bs i)) = k0 w (pu .u32 (JeH bs 16))
 | 0, i, n + 1, h, hn => by
   obtain rfl : i = 16 := by omega
   simp only [Ym, Vd]
   exact Jd (by decide)
 | d + 1, i, n + 1, h, hn => by
   have h4 : IntKind.i64.wrap (4 * (i : Int)) = ((4 * i : Nat) : Int) := by rw [wrap_i64 (by omega) (by omega)]; omega
   have h41 : IntKind.i64.wrap (((4 * i : Nat) : Int) + 1) = ((4 * i + 1 : Nat) : Int) := by rw [wrap_i64 (by omega) (by omega)]; omega
   have h42 : IntKind.i64.wrap (((4 * i : Nat) : Int) + 2) = ((4 * i + 2 : Nat) : Int) := by rw [wrap_i64 (by omega) (by omega)]; omega
   have h43 : IntKind.i64.wrap (((4 * i : Nat) : Int) + 3) = ((4 * i + 3 : Nat) : Int) := by rw [wrap_i64 (by omega) (by omega)]; omega
   have h5 := wI (i := i) (by omega)
   simp only [Ym, Vd, h4, h41, h42, h43, h5, Int.toNat_natCast, zi]
   rw [J7 (by omega), J7 (by omega), J7 (by omega), J7 (by omega), QH (by omega), QH (by omega), QH (by omega), QH (by omega), JD, Xx]
   refine (Ja (by simp; omega)).trans ?_
   refine (Ja (by simp; omega)).trans ?_
   refine (Ja (by simp; omega)).trans ?_
   refine (Ja (by simp; omega)).trans ?_
   refine (Ja (by simp; omega)).trans ?_
   refine (Ja (by simp; omega)).trans ?_
   have := Jsy bs hb f k0 nl fl w d (i + 1) n (by omega) (by omega)
   rw [← JrB bs i (by omega)] at this
   exact this
theorem Jsz (bs : List Int) (f : Nat) (k0 : List PV -> List PV -> OR) (w : List PV) : ∀ (d i n : Nat), i + d = 48 -> d < n ->
  Yn f k0 n ((i + 16 : Nat) : Int) w (pu .u32 (Jdp bs i)) = k0 w (pu .u32 (QY bs 48))
 | 0, i, n + 1, h, hn => by
   obtain rfl : i = 48 := by omega
   simp only [Yn, Ve, Wu, Wt]
   exact (Jd (by decide)).trans (by simp [Jdp])
 | d + 1, i, n + 1, h, hn => by
   have h15 : IntKind.i64.wrap (((i + 16 : Nat) : Int) - 15) = ((i + 1 : Nat) : Int) := by rw [wrap_i64 (by omega) (by omega)]; omega
   have h2 : IntKind.i64.wrap (((i + 16 : Nat) : Int) - 2) = ((i + 14 : Nat) : Int) := by rw [wrap_i64 (by omega) (by omega)]; omega
   have h16 : IntKind.i64.wrap (((i + 16 : Nat) : Int) - 16) = ((i : Nat) : Int) := by rw [wrap_i64 (by omega) (by omega)]; omega
   have h7 : IntKind.i64.wrap (((i + 16 : Nat) : Int) - 7) = ((i + 9 : Nat) : Int) := by rw [wrap_i64 (by omega) (by omega)]; omega
   have h1 : IntKind.i64.wrap (((i + 16 : Nat) : Int) + 1) = ((i + 1 + 16 : Nat) : Int) := by rw [wrap_i64 (by omega) (by omega)]; omega
   have hl := JhR bs i (by omega)
   simp only [Yn, Ve, Wu, Wt, h15, h2, h16, h7, h1, Int.toNat_natCast, zi, Yl]
   rw [J7 (by omega), J7 (by omega), J7 (by omega), J7 (by omega), QH (by omega), QH (by omega), QH (by omega), QH (by omega), Xx]
   refine (Ja (by simp; omega)).trans ?_
   refine (Ja (by simp; omega)).trans ?_
   refine (Ja (by simp)).trans ?_
   refine (Ja (by simp; omega)).trans ?_
   refine (Ja (by simp)).trans ?_
   refine (Ja (by simp; omega)).trans ?_
   refine (Ja (by simp)).trans ?_
   refine (Ja (by simp; omega)).trans ?_
   refine (Ja (by simp)).trans ?_
   refine (Ja (by simp; omega)).trans ?_
   have := Jsz bs f k0 w d (i + 1) n (by omega) (by omega)
   rw [V1 bs i i (by omega), V1 bs i (i + 1) (by omega), V1 bs i (i + 9) (by omega), V1 bs i (i + 14) (by omega), JrC bs i (by omega)]
   exact this
theorem Jw5 (bs : List Int) (hb : bs.length = 64) (nl fl : Bool) (k : KR) : JHx 100 nl fl (pu .u8 bs) k = k ⟨.ar 148 (pu .u32 (Qr bs)), [], []⟩ := by
 have h0 : ∀ k0 w, Ym 100 k0 100 nl fl (pu .u8 bs) 0 w (pu .u32 (List.replicate 64 0)) = k0 w (pu .u32 (JeH bs 16)) := fun k0 w => Jsy bs hb 100 k0 nl fl w 16 0 100 (by omega) (by omega)
 have h1 : ∀ k0 w, Yn 100 k0 100 16 w (pu .u32 (JeH bs 16)) = k0 w (pu .u32 (QY bs 48)) := fun k0 w => Jsz bs 100 k0 w 48 0 100 (by omega) (by omega)
 exact (h0 _ _).trans (h1 _ _)
def JhS : Jy
 | [.ro 5 nl fl b], [], k => bif Jk .u8 b && decide (b.length = 64) then k ⟨.ar 148 (pu .u32 (Qr (JC b))), [], []⟩ else none
 | _, _, _ => none
def JAf : Sig := { own := [], run := JhS }
theorem JC2 : Jc tau Tryz.prog 140 JAf := JN Jn JhK Jo JAd JAe _ [] 0 [] JhS (JHz 100) fun xs es k res hr => by
 unfold JhS at hr
 split at hr
 · obtain ⟨hc, hr⟩ := Ju hr
   simp only [Bool.and_eq_true, decide_eq_true_eq] at hc
   refine ⟨rfl, 0, (JOb 100 _ _ _ _).trans ?_⟩
   rw [QC hc.1, Jw5 _ (by simpa using hc.2)]
   exact hr
 · cases hr
def JHC : Fns := F0
theorem Jw6 : Jp tau Tryz.prog JHC := Js
def JsA : An := (.seq .leaf (.seq .leaf .leaf))
def JHD (f : Nat) (k : KR) : OR := k (Res.mk (.ar 148 [.sc (.int .u32 1116352408), .sc (.int .u32 1899447441), .sc (.int .u32 3049323471), .sc (.int .u32 3921009573), .sc (.int .u32 961987163), .sc (.int .u32 1508970993), .sc (.int .u32 2453635748), .sc (.int .u32 2870763221), .sc (.int .u32 3624381080), .sc (.int .u32 310598401), .sc (.int .u32 607225278), .sc (.int .u32 1426881987), .sc (.int .u32 1925078388), .sc (.int .u32 2162078206), .sc (.int .u32 2614888103), .sc (.int .u32 3248222580), .sc (.int .u32 3835390401), .sc (.int .u32 4022224774), .sc (.int .u32 264347078), .sc (.int .u32 604807628), .sc (.int .u32 770255983), .sc (.int .u32 1249150122), .sc (.int .u32 1555081692), .sc (.int .u32 1996064986), .sc (.int .u32 2554220882), .sc (.int .u32 2821834349), .sc (.int .u32 2952996808), .sc (.int .u32 3210313671), .sc (.int .u32 3336571891), .sc (.int .u32 3584528711), .sc (.int .u32 113926993), .sc (.int .u32 338241895), .sc (.int .u32 666307205), .sc (.int .u32 773529912), .sc (.int .u32 1294757372), .sc (.int .u32 1396182291), .sc (.int .u32 1695183700), .sc (.int .u32 1986661051), .sc (.int .u32 2177026350), .sc (.int .u32 2456956037), .sc (.int .u32 2730485921), .sc (.int .u32 2820302411), .sc (.int .u32 3259730800), .sc (.int .u32 3345764771), .sc (.int .u32 3516065817), .sc (.int .u32 3600352804), .sc (.int .u32 4094571909), .sc (.int .u32 275423344), .sc (.int .u32 430227734), .sc (.int .u32 506948616), .sc (.int .u32 659060556), .sc (.int .u32 883997877), .sc (.int .u32 958139571), .sc (.int .u32 1322822218), .sc (.int .u32 1537002063), .sc (.int .u32 1747873779), .sc (.int .u32 1955562222), .sc (.int .u32 2024104815), .sc (.int .u32 2227730452), .sc (.int .u32 2361852424), .sc (.int .u32 2428436474), .sc (.int .u32 2756734187), .sc (.int .u32 3204031479), .sc (.int .u32 3329325298)]) [] [])
theorem JOc (f : Nat) (k : KR) : JI tau JHC Tryz.f141 (Tryz.f141.body.get!) JsA [.ro] 0 [] [] k = JHD f k := by kernel_rfl
theorem JHE (f : Nat) : ∀ q ∈ Jf (Tryz.f141.body.get!) JsA, q.Ok tau Tryz.prog 0 := Jv (by kernel_rfl)
theorem JAg : Tryz.prog.funcs[141]? = some Tryz.f141 := by kernel_rfl
theorem JAh : Tryz.f141.body = some (Tryz.f141.body.get!) := by kernel_rfl
theorem JHF : Enters Tryz.prog 141 := enters_of JAg (by kernel_rfl) JAh
def Jl6 : Jy
 | [], [], k => JHD 0  k
 | _, _, _ => none
def JHG : Sig := { own := [], run := Jl6 }
theorem JHH : Jc tau Tryz.prog 141 JHG := JN Jn Jw6 Jo JAg JAh JsA [.ro] 0 [] Jl6 (JHE 0) fun xs es k res hr => by
 unfold Jl6 at hr
 split at hr
 · exact ⟨rfl, 0, (JOc 0  _).trans hr⟩
 · cases hr
def N98 : Nat := 113
def F98 : Fns := Jr 141 JHG (Jr 140 JAf (Jr 142 Jst F0))
theorem Jl7 : Jp tau Tryz.prog F98 := ((Js.add Jsu JAc).add JC2 JHA).add JHH JHF
def Jpc : Code := Qd (Tryz.f98.body.get!) [1, 1, 1, 0, 1, 0, 0]
def JeI : Nm := [(2, .any), (4, .any), (5, .any), (6, .any), (7, .any), (18, .any)]
def Jl8 : Nm := [(2, .any), (4, .any), (7, .any)]
def JsB : An := (.seq .leaf (.seq (.cond .leaf .leaf) (.seq (.block none (.seq .leaf (.seq .leaf (.seq .leaf (.seq .leaf .leaf))))) .leaf)))
def Jpd : Code := Qd (Tryz.f98.body.get!) [1, 1, 1, 1, 0, 1, 0, 0]
def JeJ : Nm := [(2, .any), (4, .any), (7, .any), (100, .any)]
def Jl9 : Nm := [(4, .any), (7, .any)]
def JsC : An := (.seq .leaf (.seq (.cond .leaf .leaf) (.seq (.block none (.seq .leaf .leaf)) .leaf)))
def JC3 (r0 : Qt) (r1 : Qt) : An := (.seq .leaf (.seq .leaf (.seq .leaf (.seq (.seq .leaf (.block none (.sum JeI N98 r0))) (.seq (.seq .leaf (.block none (.sum JeJ N98 r1))) (.seq .leaf .leaf))))))
abbrev JsD := Int -> List PV -> List PV -> List PV -> List PV -> List PV -> OR
abbrev Zh (v0 : Int) (v3 : List PV) (v4 : List PV) (v5 : List PV) := (IntKind.u32.wrap (IntKind.u32.wrap (IntKind.u32.wrap ((Jq (PV.ar 170 v5) [7]).int + JL BinOp.xor IntKind.u32 (JL BinOp.xor IntKind.u32 (rr (Jq (PV.ar 170 v5) [4]).int 6) (rr (Jq (PV.ar 170 v5) [4]).int 11)) (rr (Jq (PV.ar 170 v5) [4]).int 25)) + JL BinOp.xor IntKind.u32 (JL BinOp.and IntKind.u32 (Jq (PV.ar 170 v5) [4]).int (Jq (PV.ar 170 v5) [5]).int) (JL BinOp.and IntKind.u32 (JL BinOp.xor IntKind.u32 (Int.ofNat (2 ^ IntKind.u32.bits - Nat.succ 0)) (Jq (PV.ar 170 v5) [4]).int) (Jq (PV.ar 170 v5) [6]).int)) + (Jq (PV.ar 148 v4) [v0.toNat]).int) + (Jq (PV.ar 148 v3) [v0.toNat]).int)
def JaP (f : Nat) (rc : JsD) (k0 : List PV -> List PV -> List PV -> OR) (v0 : Int) (v1 v2 v3 v4 v5 : List PV) : OR := bif decide (v0 < 64) then bif PV.isInt IntKind.u32 (Jq (PV.ar 170 v5) [4]) && true then bif PV.isInt IntKind.u32 (Jq (PV.ar 170 v5) [0]) && true then bif PV.isInt IntKind.u32 (Jq (PV.ar 170 v5) [7]) && true then bif PV.isInt IntKind.u32 (Jq (PV.ar 170 v5) [5]) && true then bif PV.isInt IntKind.u32 (Jq (PV.ar 170 v5) [6]) && true then bif decide (0 <= v0) && decide (v0 < zi 64) && true then bif PV.isInt IntKind.u32 (Jq (PV.ar 148 v4) [v0.toNat]) && true then bif decide (0 <= v0) && decide (v0 < zi 64) && true then bif PV.isInt IntKind.u32 (Jq (PV.ar 148 v3) [v0.toNat]) && true then bif PV.isInt IntKind.u32 (Jq (PV.ar 170 v5) [1]) && true then bif PV.isInt IntKind.u32 (Jq (PV.ar 170 v5) [2]) && true then bif PV.isInt IntKind.u32 (Jq (PV.ar 170 v5) [1]) && true then bif PV.isInt IntKind.u32 (Jq (PV.ar 170 v5) [2]) && true then bif PV.isInt IntKind.u32 (Jq (PV.ar 170 v5) [0]) && true then bif PV.isInt IntKind.u32 (Jq (PV.ar 170 v5) [1]) && true then bif PV.isInt IntKind.u32 (Jq (PV.ar 170 v5) [2]) && true then bif PV.isInt IntKind.u32 (Jq (PV.ar 170 v5) [3]) && true then bif PV.isInt IntKind.u32 (Jq (PV.ar 170 v5) [4]) && true then bif PV.isInt IntKind.u32 (Jq (PV.ar 170 v5) [5]) && true then bif PV.isInt IntKind.u32 (Jq (PV.ar 170 v5) [6]) && true then rc (IntKind.i64.wrap (v0 + 1)) v1 v2 v3 v4 ([.sc (.int .u32 (IntKind.u32.wrap (IntKind.u32.wrap (Zh v0 v3 v4 v5) + IntKind.u32.wrap (JL BinOp.xor IntKind.u32 (JL BinOp.xor IntKind.u32 (rr (Jq (PV.ar 170 v5) [0]).int 2) (rr (Jq (PV.ar 170 v5) [0]).int 13)) (rr (Jq (PV.ar 170 v5) [0]).int 22) + JL BinOp.xor IntKind.u32 (JL BinOp.xor IntKind.u32 (JL BinOp.and IntKind.u32 (Jq (PV.ar 170 v5) [0]).int (Jq (PV.ar 170 v5) [1]).int) (JL BinOp.and IntKind.u32 (Jq (PV.ar 170 v5) [0]).int (Jq (PV.ar 170 v5) [2]).int)) (JL BinOp.and IntKind.u32 (Jq (PV.ar 170 v5) [1]).int (Jq (PV.ar 170 v5) [2]).int))))), .sc (.int .u32 (Jq (PV.ar 170 v5) [0]).int), .sc (.int .u32 (Jq (PV.ar 170 v5) [1]).int), .sc (.int .u32 (Jq (PV.ar 170 v5) [2]).int), .sc (.int .u32 (IntKind.u32.wrap ((Jq (PV.ar 170 v5) [3]).int + IntKind.u32.wrap (Zh v0 v3 v4 v5)))), .sc (.int .u32 (Jq (PV.ar 170 v5) [4]).int), .sc (.int .u32 (Jq (PV.ar 170 v5) [5]).int), .sc (.int .u32 (Jq (PV.ar 170 v5) [6]).int)]) else none else none else none else none else none else none else none else none else none else none else none else none else none else none else none else none else none else none else none else none else k0 v1 v2 v5
def Vf (f : Nat) (k0 : List PV -> List PV -> List PV -> OR) : Nat -> JsD
 | 0 => fun _ _ _ _ _ _ => none
 | n + 1 => JaP f (Vf f k0 n) k0
def JaQ (k : Kont) := fun x0 x1 x2 => k (Ex.exit 0) (Ji Jl8 N98 [.ptr 1824 [], .ptr 1825 [], .ptr 1826 []] [(1824, .box false 170 (PV.ar 170 x0)), (1825, .box false 170 (PV.ar 170 x1)), (1826, .box false 170 (PV.ar 170 x2))])
def Jma (f : Nat) (k : Kont) (n : Nat) (v0 : Int) (v1 v2 v3 v4 v5 : List PV) : OR := Jx tau 0 JeI (fun s k => ev tau F98 0 0 Jpc (JsB ) s k) n (Ji JeI N98 [.ptr 1824 [], .ptr 1825 [], .ptr 1826 [], .ptr 1827 [], .ptr 1828 [], .sc (.int .i64 v0)] [(1824, .box false 170 (PV.ar 170 v1)), (1825, .box false 170 (PV.ar 170 v2)), (1826, .box false 148 (PV.ar 148 v3)), (1827, .box false 148 (PV.ar 148 v4)), (1828, .box false 170 (PV.ar 170 v5))]) (JG tau 0 Jl8 k)
theorem Jw7 (f : Nat) (k : Kont) (n : Nat) : Jma f k (n + 1) = JaP f (Jma f k n) (JaQ k) := by kernel_rfl
theorem Jpe (f : Nat) (k : Kont) : ∀ n, Jma f k n = Vf f (JaQ k) n
 | 0 => rfl
 | n + 1 => (Jw7 f k n).trans (congrArg (fun r => JaP f r (JaQ k)) (Jpe f k n))
def JgJ (f : Nat) : List PV -> List (Nat × Ent) -> Kont -> OR
 | [.ptr 1824 [], .ptr 1825 [], .ptr 1826 [], .ptr 1827 [], .ptr 1828 [],
 PV.sc
  (Value.int IntKind.i64
   v0)], [(1824, .box false 170 (PV.ar 170 v1)), (1825, .box false 170 (PV.ar 170 v2)), (1826, .box false 148 (PV.ar 148 v3)), (1827, .box false 148 (PV.ar 148 v4)),
 (1828,
  Ent.box false 170
   (PV.ar 170
    v5))], k => Vf f (JaQ k) f v0 v1 v2 v3 v4 v5
 | _, _, _ => none
theorem JC4 (f : Nat) : Jf Jpc JsB = [] := by kernel_rfl
theorem JHI (f : Nat) : (Item.l Jpc JeI N98 (JgJ f)).Ok tau Tryz.prog 0 := Jt Jn Jl7 Jo (x := JsB) (nm2 := Jl8) (Jl _ _ (by rw [JC4 f]; intro q hq; cases hq)) fun vs hp k res hr => by
 unfold JgJ at hr
 split at hr
 · exact ⟨f, 0, (Jpe f _ f _ _ _ _ _ _ ).trans hr⟩
 · cases hr
abbrev JsE := Int -> List PV -> List PV -> List PV -> OR
def JaR (f : Nat) (rc : JsE) (k0 : List PV -> List PV -> OR) (v0 : Int) (v1 v2 v3 : List PV) : OR := bif decide (v0 < 8) then bif decide (0 <= v0) && decide (v0 < zi 8) && true then bif PV.isInt IntKind.u32 (Jq (PV.ar 170 v3) [v0.toNat]) && true then bif decide (0 <= v0) && decide (v0 < zi 8) && true then bif PV.isInt IntKind.u32 (Jq (PV.ar 170 v1) [v0.toNat]) && true then bif decide (0 <= v0) && decide (v0 < zi 8) && true then rc (IntKind.i64.wrap (v0 + 1)) v1 v2 (v3.set v0.toNat (.sc (.int .u32 (IntKind.u32.wrap ((Jq (PV.ar 170 v3) [v0.toNat]).int + (Jq (PV.ar 170 v1) [v0.toNat]).int))))) else none else none else none else none else none else k0 v2 v3
def Vg (f : Nat) (k0 : List PV -> List PV -> OR) : Nat -> JsE
 | 0 => fun _ _ _ _ => none
 | n + 1 => JaR f (Vg f k0 n) k0
def JaS (k : Kont) := fun x0 x1 => k (Ex.exit 2) (Ji Jl9 N98 [.ptr 1824 [], .ptr 1825 []] [(1824, .box false 170 (PV.ar 170 x0)), (1825, .box false 170 (PV.ar 170 x1))])
def Jmb (f : Nat) (k : Kont) (n : Nat) (v0 : Int) (v1 v2 v3 : List PV) : OR := Jx tau 0 JeJ (fun s k => ev tau F98 0 0 Jpd (JsC ) s k) n (Ji JeJ N98 [.ptr 1824 [], .ptr 1825 [], .ptr 1826 [], .sc (.int .i64 v0)] [(1824, .box false 170 (PV.ar 170 v1)), (1825, .box false 170 (PV.ar 170 v2)), (1826, .box false 170 (PV.ar 170 v3))]) (JG tau 0 Jl9 k)
theorem Jw8 (f : Nat) (k : Kont) (n : Nat) : Jmb f k (n + 1) = JaR f (Jmb f k n) (JaS k) := by kernel_rfl
theorem Jpf (f : Nat) (k : Kont) : ∀ n, Jmb f k n = Vg f (JaS k) n
 | 0 => rfl
 | n + 1 => (Jw8 f k n).trans (congrArg (fun r => JaR f r (JaS k)) (Jpf f k n))
def JgK (f : Nat) : List PV -> List (Nat × Ent) -> Kont -> OR
 | [.ptr 1824 [], .ptr 1825 [], .ptr 1826 [],
 PV.sc
  (Value.int IntKind.i64
   v0)], [(1824, .box false 170 (PV.ar 170 v1)), (1825, .box false 170 (PV.ar 170 v2)),
 (1826,
  Ent.box false 170
   (PV.ar 170
    v3))], k => Vg f (JaS k) f v0 v1 v2 v3
 | _, _, _ => none
theorem JC5 (f : Nat) : Jf Jpd JsC = [] := by kernel_rfl
theorem JHJ (f : Nat) : (Item.l Jpd JeJ N98 (JgK f)).Ok tau Tryz.prog 0 := Jt Jn Jl7 Jo (x := JsC) (nm2 := Jl9) (Jl _ _ (by rw [JC5 f]; intro q hq; cases hq)) fun vs hp k res hr => by
 unfold JgK at hr
 split at hr
 · exact ⟨f, 0, (Jpf f _ f _ _ _ _ ).trans hr⟩
 · cases hr
def g98 (f : Nat) (s : List PV) (nl fl : Bool) (b : List PV) (k : KR) : OR := bif Jk IntKind.u8 b && decide (b.length = 64) then Vf f (fun x0_0 x1_0 x2_0 => Vg f (fun _ x1_1 => k (Res.mk (.ar 170 x1_1) [] [])) f (0) x0_0 x1_0 x2_0) f (0) s ([.sc (.int .u32 0), .sc (.int .u32 0), .sc (.int .u32 0), .sc (.int .u32 0), .sc (.int .u32 0), .sc (.int .u32 0), .sc (.int .u32 0), .sc (.int .u32 0)]) (pu IntKind.u32 (Qr (JC b))) ([.sc (.int .u32 1116352408), .sc (.int .u32 1899447441), .sc (.int .u32 3049323471), .sc (.int .u32 3921009573), .sc (.int .u32 961987163), .sc (.int .u32 1508970993), .sc (.int .u32 2453635748), .sc (.int .u32 2870763221), .sc (.int .u32 3624381080), .sc (.int .u32 310598401), .sc (.int .u32 607225278), .sc (.int .u32 1426881987), .sc (.int .u32 1925078388), .sc (.int .u32 2162078206), .sc (.int .u32 2614888103), .sc (.int .u32 3248222580), .sc (.int .u32 3835390401), .sc (.int .u32 4022224774), .sc (.int .u32 264347078), .sc (.int .u32 604807628), .sc (.int .u32 770255983), .sc (.int .u32 1249150122), .sc (.int .u32 1555081692), .sc (.int .u32 1996064986), .sc (.int .u32 2554220882), .sc (.int .u32 2821834349), .sc (.int .u32 2952996808), .sc (.int .u32 3210313671), .sc (.int .u32 3336571891), .sc (.int .u32 3584528711), .sc (.int .u32 113926993), .sc (.int .u32 338241895), .sc (.int .u32 666307205), .sc (.int .u32 773529912), .sc (.int .u32 1294757372), .sc (.int .u32 1396182291), .sc (.int .u32 1695183700), .sc (.int .u32 1986661051), .sc (.int .u32 2177026350), .sc (.int .u32 2456956037), .sc (.int .u32 2730485921), .sc (.int .u32 2820302411), .sc (.int .u32 3259730800), .sc (.int .u32 3345764771), .sc (.int .u32 3516065817), .sc (.int .u32 3600352804), .sc (.int .u32 4094571909), .sc (.int .u32 275423344), .sc (.int .u32 430227734), .sc (.int .u32 506948616), .sc (.int .u32 659060556), .sc (.int .u32 883997877), .sc (.int .u32 958139571), .sc (.int .u32 1322822218), .sc (.int .u32 1537002063), .sc (.int .u32 1747873779), .sc (.int .u32 1955562222), .sc (.int .u32 2024104815), .sc (.int .u32 2227730452), .sc (.int .u32 2361852424), .sc (.int .u32 2428436474), .sc (.int .u32 2756734187), .sc (.int .u32 3204031479), .sc (.int .u32 3329325298)]) s else none
theorem e98 (f : Nat) (s : List PV) (nl fl : Bool) (b : List PV) (k : KR) : JI tau F98 Tryz.f98 (Tryz.f98.body.get!) (JC3 (JgJ f) (JgK f)) [] 0 [.ar 170 s, .ro 5 nl fl b] [] k = g98 f s nl fl b k := by kernel_rfl
theorem JOd (f : Nat) : Jf (Tryz.f98.body.get!) (JC3 (JgJ f) (JgK f)) = [.l Jpc JeI N98 (JgJ f), .l Jpd JeJ N98 (JgK f)] := by kernel_rfl
theorem JOe (f : Nat) : ∀ q ∈ Jf (Tryz.f98.body.get!) (JC3 (JgJ f) (JgK f)), q.Ok tau Tryz.prog 0 := by rw [JOd f]; exact JJ (JHI f) (JJ (JHJ f) (fun _ h => nomatch h))
theorem JHK : Tryz.prog.funcs[98]? = some Tryz.f98 := by kernel_rfl
theorem JHL : Tryz.f98.body = some (Tryz.f98.body.get!) := by kernel_rfl
theorem JOf : Enters Tryz.prog 98 := enters_of JHK (by kernel_rfl) JHL
def QS (g : Nat -> Int) (t : List Int) (i : Nat) : List Int := (List.range i).map g ++ t.drop i
theorem Wk (g : Nat -> Int) (t : List Int) : QS g t 0 = t := by simp [QS]
theorem W3 (g : Nat -> Int) (t : List Int) : QS g t t.length = (List.range t.length).map g := by simp [QS]
theorem JaT (g : Nat -> Int) (t : List Int) (i : Nat) (h : i <= t.length) : (QS g t i).length = t.length := by simp [QS]; omega
theorem QQ (g : Nat -> Int) (t : List Int) (i : Nat) (h : i < t.length) : (QS g t i).set i (g i) = QS g t (i + 1) := by
 rw [QS, List.set_append_right _ _ (by simp), List.drop_eq_getElem_cons h, List.length_map, List.length_range, Nat.sub_self, List.set_cons_zero]
 simp [QS, List.range_succ]
theorem JgL (g : Nat -> Int) (t : List Int) (i : Nat) (h : i < t.length) : (QS g t i).getD i 0 = t.getD i 0 := by
 simp only [QS, List.getD_eq_getElem?_getD]
 rw [List.getElem?_append_right (by simp)]
 simp
def kks : List Int := [1116352408, 1899447441, 3049323471, 3921009573, 961987163, 1508970993, 2453635748, 2870763221, 3624381080, 310598401, 607225278, 1426881987, 1925078388, 2162078206, 2614888103, 3248222580, 3835390401, 4022224774, 264347078, 604807628, 770255983, 1249150122, 1555081692, 1996064986, 2554220882, 2821834349, 2952996808, 3210313671, 3336571891, 3584528711, 113926993, 338241895, 666307205, 773529912, 1294757372, 1396182291, 1695183700, 1986661051, 2177026350, 2456956037, 2730485921, 2820302411, 3259730800, 3345764771, 3516065817, 3600352804, 4094571909, 275423344, 430227734, 506948616, 659060556, 883997877, 958139571, 1322822218, 1537002063, 1747873779, 1955562222, 2024104815, 2227730452, 2361852424, 2428436474, 2756734187, 3204031479, 3329325298]
def iv : List Int := [1779033703, 3144134277, 1013904242, 2773480762, 1359893119, 2600822924, 528734635, 1541459225]
def xW (k w h e f g : Int) : Int := ww (ww (ww (ww (h + JL .xor .u32 (JL .xor .u32 (rr e 6) (rr e 11)) (rr e 25)) + JL .xor .u32 (JL .and .u32 e f) (JL .and .u32 (JL .xor .u32 (Int.ofNat (2 ^ IntKind.u32.bits - Nat.succ 0)) e) g)) + k) + w)
def yW (a b c : Int) : Int := ww (JL .xor .u32 (JL .xor .u32 (rr a 2) (rr a 13)) (rr a 22) + JL .xor .u32 (JL .xor .u32 (JL .and .u32 a b) (JL .and .u32 a c)) (JL .and .u32 b c))
def rnd (k w : Int) (t : List Int) : List Int :=
 [ww (xW k w (t.getD 7 0) (t.getD 4 0) (t.getD 5 0) (t.getD 6 0) + yW (t.getD 0 0) (t.getD 1 0) (t.getD 2 0)), t.getD 0 0, t.getD 1 0, t.getD 2 0,
  ww (t.getD 3 0 + xW k w (t.getD 7 0) (t.getD 4 0) (t.getD 5 0) (t.getD 6 0)), t.getD 4 0, t.getD 5 0, t.getD 6 0]
def JcJ (W s : List Int) : Nat -> List Int
 | 0 => s
 | i + 1 => rnd (kks.getD i 0) (W.getD i 0) (JcJ W s i)
theorem Yo (W s : List Int) (h : s.length = 8) : ∀ i, (JcJ W s i).length = 8
 | 0 => h
 | i + 1 => rfl
def Jmc (s bs : List Int) : List Int := (List.range 8).map fun i => ww ((JcJ (Qr bs) s 64).getD i 0 + s.getD i 0)
theorem Jkq (s bs : List Int) : (Jmc s bs).length = 8 := by simp [Jmc]
def X1 (s b : List Int) : Nat -> List Int
 | 0 => s
 | n + 1 => Jmc (X1 s b n) ((b.drop (64 * n)).take 64)
theorem XE (s b : List Int) (h : s.length = 8) : ∀ n, (X1 s b n).length = 8
 | 0 => h
 | n + 1 => Jkq _ _
def zs (m : Nat) : Nat := (120 - m % 64) % 64
def Jw9 (n : Nat) : List Int := (List.range 8).map fun (i : Nat) => IntKind.u8.wrap (JV .u64 (IntKind.u64.wrap (IntKind.u64.wrap (n : Int) * 8)) (56 - 8 * (i : Int)))
def Q7 (bs : List Int) : List Int := (bs ++ [128] ++ List.replicate (zs (bs.length + 1)) 0) ++ Jw9 bs.length
theorem Jdq (bs : List Int) : (Q7 bs).length = 64 * ((Q7 bs).length / 64) := by
 have : (Q7 bs).length = bs.length + 1 + zs (bs.length + 1) + 8 := by simp [Q7, Jw9]; omega
 rw [this]; unfold zs; omega
def ZY (s : List Int) (i : Nat) : Int := IntKind.u8.wrap (JV .u32 (s.getD (i / 4) 0) (24 - 8 * ((i % 4 : Nat) : Int)))
def JsF (s : List Int) : List Int := (List.range 32).map (ZY s)
def Jpg (bs : List Int) : List Int := JsF (X1 iv (Q7 bs) ((Q7 bs).length / 64))
def JX (bs : List Int) : List Int := bif Nat.ble bs.length bs.length then Jpg bs else []
theorem JdR (bs : List Int) : JX bs = Jpg bs := by
 have : Nat.ble bs.length bs.length = true := by rw [Nat.ble_eq]; exact Nat.le_refl _
 rw [JX, this]; rfl
theorem Qw (bs : List Int) : (JX bs).length = 32 := by simp [JdR, Jpg, JsF]
theorem JeK (n : Nat) : (zi n).tmod 64 = ((n % 64 : Nat) : Int) := by
 show (n : Int).tmod 64 = _
 rw [Int.tmod_eq_emod_of_nonneg (by omega)]; omega
theorem Vh {R : List Int} (h : R.length = 8) (j : Nat) (hj : j < 8) : (pu .u32 R).getD j .top = .sc (.int .u32 (R.getD j 0)) := Vb (by omega)
theorem JAi (W s : List Int) (hW : W.length = 64) (hs : s.length = 8) (f : Nat) (k0 : List PV -> List PV -> List PV -> OR) (a b : List PV) : ∀ (d i n : Nat), i + d = 64 -> d < n ->
  Vf f k0 n (i : Int) a b (pu .u32 W) (pu .u32 kks) (pu .u32 (JcJ W s i)) = k0 a b (pu .u32 (JcJ W s 64))
 | 0, i, n + 1, h, hn => by
   obtain rfl : i = 64 := by omega
   simp only [Vf, JaP, Zh]
   exact Jd (by decide)
 | d + 1, i, n + 1, h, hn => by
   have hl := Yo W s hs i
   have h1 := wI (i := i) (by omega)
   have hk : (pu .u32 kks).getD i .top = .sc (.int .u32 (kks.getD i 0)) := Vb (by show i < 64; omega)
   have hw : (pu .u32 W).getD i .top = .sc (.int .u32 (W.getD i 0)) := Vb (by omega)
   have c1 : decide ((i : Int) < 64) = true := by simp; omega
   have c2 : decide (0 <= (i : Int)) = true := by simp
   have c3 : decide ((i : Int) < zi 64) = true := by simp; omega
   simp only [Vf, JaP, Zh, Yl, Int.toNat_natCast, h1, hk, hw, c1, c2, c3, Vh hl 0 (by omega), Vh hl 1 (by omega), Vh hl 2 (by omega), Vh hl 3 (by omega), Vh hl 4 (by omega), Vh hl 5 (by omega), Vh hl 6 (by omega), Vh hl 7 (by omega), PV.isInt, PV.int, decide_true, Bool.and_true, cond_true]
   exact JAi W s hW hs f k0 a b d (i + 1) n (by omega) (by omega)
theorem JAj (t s : List Int) (ht : t.length = 8) (hs : s.length = 8) (f : Nat) (k0 : List PV -> List PV -> OR) (a : List PV) : ∀ (d i n : Nat), i + d = 8 -> d < n ->
  Vg f k0 n (i : Int) (pu .u32 s) a (pu .u32 (QS (fun j => ww (t.getD j 0 + s.getD j 0)) t i)) = k0 a (pu .u32 (QS (fun j => ww (t.getD j 0 + s.getD j 0)) t 8))
 | 0, i, n + 1, h, hn => by
   obtain rfl : i = 8 := by omega
   simp only [Vg, JaR]
   exact Jd (by decide)
 | d + 1, i, n + 1, h, hn => by
   have hl : (QS (fun j => ww (t.getD j 0 + s.getD j 0)) t i).length = 8 := by rw [JaT _ _ _ (by omega), ht]
   have h1 := wI (i := i) (by omega)
   have c1 : decide ((i : Int) < 8) = true := by simp; omega
   have c2 : decide (0 <= (i : Int)) = true := by simp
   have c3 : decide ((i : Int) < zi 8) = true := by simp; omega
   have g1 := tI i
   simp only [Vg, JaR, Yl, g1, h1, c1, c2, c3, Vh hl i (by omega), Vh hs i (by omega), JgL _ t i (by omega), PV.isInt, PV.int, decide_true, Bool.and_true, cond_true, Xx]
   have := JAj t s ht hs f k0 a d (i + 1) n (by omega) (by omega)
   rw [← QQ _ t i (by omega)] at this
   exact this
theorem JC6 (s bs : List Int) (hs : s.length = 8) (hb : bs.length = 64) (nl fl : Bool) (k : KR) : g98 100 (pu .u32 s) nl fl (pu .u8 bs) k = k ⟨.ar 170 (pu .u32 (Jmc s bs)), [], []⟩ := by
 have hW : (Qr bs).length = 64 := Qf bs 48
 have hc : (Jk .u8 (pu .u8 bs) && decide ((pu .u8 bs).length = 64)) = true := by simp [hb]
 refine (Ja hc).trans ?_
 rw [WL]
 have h0 : ∀ k0 a b, Vf 100 k0 100 0 a b (pu .u32 (Qr bs)) (pu .u32 kks) (pu .u32 s) = k0 a b (pu .u32 (JcJ (Qr bs) s 64)) := fun k0 a b => JAi (Qr bs) s hW hs 100 k0 a b 64 0 100 (by omega) (by omega)
 have ht := Yo (Qr bs) s hs 64
 have h1 : ∀ k0 a, Vg 100 k0 100 0 (pu .u32 s) a (pu .u32 (JcJ (Qr bs) s 64)) = k0 a (pu .u32 (Jmc s bs)) := by
  intro k0 a
  have := JAj (JcJ (Qr bs) s 64) s ht hs 100 k0 a 8 0 100 (by omega) (by omega)
  rw [Wk] at this
  refine this.trans ?_
  have h2 := W3 (fun j => ww ((JcJ (Qr bs) s 64).getD j 0 + s.getD j 0)) (JcJ (Qr bs) s 64)
  rw [ht] at h2; rw [h2]; rfl
 exact (h0 _ _ _).trans (h1 _ _)
def Jmd : Jy
 | [.ar 170 s, .ro 5 nl fl b], [], k => bif (Jk .u32 s && decide (s.length = 8)) && (Jk .u8 b && decide (b.length = 64)) then k ⟨.ar 170 (pu .u32 (Jmc (JC s) (JC b))), [], []⟩ else none
 | _, _, _ => none
def JHM : Sig := { own := [], run := Jmd }
theorem JHN : Jc tau Tryz.prog 98 JHM := JN Jn Jl7 Jo JHK JHL _ [] 0 [] Jmd (JOe 100) fun xs es k res hr => by
 unfold Jmd at hr
 split at hr
 · obtain ⟨hc, hr⟩ := Ju hr
   simp only [Bool.and_eq_true, decide_eq_true_eq] at hc
   refine ⟨rfl, 0, (e98 100 _ _ _ _ _).trans ?_⟩
   rw [QC hc.2.1, QC hc.1.1, JC6 _ _ (by simpa using hc.1.2) (by simpa using hc.2.2)]
   exact hr
 · cases hr
def JHO : Fns := F0
theorem Jxa : Jp tau Tryz.prog JHO := Js
def JsG : An := (.seq .leaf (.seq (.seq .leaf (.cond .leaf .leaf)) (.seq (.seq .leaf (.seq .leaf (.cond .leaf .leaf))) (.seq .leaf .leaf))))
def JHP (f : Nat) (n : Int) (k : KR) : OR := bif decide (n < 0) then none else bif decide (IntKind.i64.wrap (n - IntKind.i64.wrap (zi 0 - zi 0)) > 0) then bif decide (0 <= IntKind.i64.wrap (n - IntKind.i64.wrap (zi 0 - zi 0))) && Je (IntKind.i64.wrap (n - IntKind.i64.wrap (zi 0 - zi 0))).toNat 1 && true then k (Res.mk (.ow 5 16 [] 0 0 none) [] [.vec false 5 (IntKind.i64.wrap (n - IntKind.i64.wrap (zi 0 - zi 0)) == 0) (List.replicate (IntKind.i64.wrap (n - IntKind.i64.wrap (zi 0 - zi 0))).toNat (.sc (.int .u8 0)))]) else none else k (Res.mk (.ro 5 true true []) [] [])
theorem JOg (f : Nat) (n : Int) (k : KR) : JI tau JHO Tryz.f139 (Tryz.f139.body.get!) JsG [] 0 [.ro 5 true true [], .sc (.int .i64 n)] [] k = JHP f n k := by kernel_rfl
theorem JHQ (f : Nat) : ∀ q ∈ Jf (Tryz.f139.body.get!) JsG, q.Ok tau Tryz.prog 0 := Jv (by kernel_rfl)
theorem JAk : Tryz.prog.funcs[139]? = some Tryz.f139 := by kernel_rfl
theorem JAl : Tryz.f139.body = some (Tryz.f139.body.get!) := by kernel_rfl
theorem JHR : Enters Tryz.prog 139 := enters_of JAk (by kernel_rfl) JAl
def Jme : Jy
 | [.ro 5 true true [], .sc (.int .i64 n)], [], k => JHP 0 n k
 | _, _, _ => none
def JHS : Sig := { own := [], run := Jme }
theorem JHT : Jc tau Tryz.prog 139 JHS := JN Jn Jxa Jo JAk JAl JsG [] 0 [] Jme (JHQ 0) fun xs es k res hr => by
 unfold Jme at hr
 split at hr
 · exact ⟨rfl, 0, (JOg 0 _  _).trans hr⟩
 · cases hr
def N97 : Nat := 36
def F97 : Fns := Jr 139 JHS (F0)
theorem Jmf : Jp tau Tryz.prog F97 := (Js).add JHT JHR
def Jph : Code := Qd (Tryz.f97.body.get!) [1, 1, 0, 1, 0, 0]
def JeL : Nm := [(0, .any), (3, .any), (9, .any), (10, .any), (11, .any)]
def Jmg : Nm := [(0, .any), (3, .any)]
def JsH : An := (.seq .leaf (.seq (.cond .leaf .leaf) (.seq (.block none (.seq .leaf (.seq .leaf (.seq .leaf (.cond .leaf .leaf))))) .leaf)))
def JgM : Code := Qd (Tryz.f97.body.get!) [1, 1, 1, 1, 0, 1, 0, 0]
def Zi : Nm := [(6, .own), (25, .any), (26, .any), (27, .any)]
def Vi : Nm := [(6, .any)]
def Jkr : An := (.seq .leaf (.seq (.cond .leaf .leaf) (.seq (.block none (.seq .leaf .leaf)) .leaf)))
def Jxb (r0 : Qt) (r1 : Qt) : An := (.seq .leaf (.seq .leaf (.seq (.seq .leaf (.block none (.sum JeL N97 r0))) (.seq .leaf (.seq (.seq .leaf (.block none (.sum Zi N97 r1))) (.seq .leaf .leaf))))))
abbrev JsI := Bool -> Bool -> List PV -> Int -> Bool -> Bool -> List PV -> Int -> Int -> OR
def JaU (f : Nat) (rc : JsI) (k0 : Bool -> Bool -> List PV -> Int -> OR) (v0 v1 : Bool) (v2 : List PV) (v3 : Int) (v4 v5 : Bool) (v6 : List PV) (v7 v8 : Int) : OR := bif decide (v8 < v7) then bif decide (0 <= v8) && decide (v8 < zi v6.length) && PV.isRo 5 (v6.getD v8.toNat PV.top) && true then bif decide (IntKind.i64.wrap (v3 + zi (v6.getD v8.toNat PV.top).els.length) < 0) then none else rc v0 v1 v2 (IntKind.i64.wrap (v3 + zi (v6.getD v8.toNat PV.top).els.length)) v4 v5 v6 v7 (IntKind.i64.wrap (v8 + 1)) else none else k0 v0 v1 v2 v3
def GK (f : Nat) (k0 : Bool -> Bool -> List PV -> Int -> OR) : Nat -> JsI
 | 0 => fun _ _ _ _ _ _ _ _ _ => none
 | n + 1 => JaU f (GK f k0 n) k0
def JaV (k : Kont) := fun x0 x1 x2 x3 => k (Ex.exit 0) (Ji Jmg N97 [.ro 26 x0 x1 x2, .sc (.int .i64 x3)] [])
def Jmh (f : Nat) (k : Kont) (n : Nat) (v0 v1 : Bool) (v2 : List PV) (v3 : Int) (v4 v5 : Bool) (v6 : List PV) (v7 v8 : Int) : OR := Jx tau 0 JeL (fun s k => ev tau F97 0 0 Jph (JsH ) s k) n (Ji JeL N97 [.ro 26 v0 v1 v2, .sc (.int .i64 v3), .ro 26 v4 v5 v6, .sc (.int .i64 v7), .sc (.int .i64 v8)] []) (JG tau 0 Jmg k)
theorem Jxc (f : Nat) (k : Kont) (n : Nat) : Jmh f k (n + 1) = JaU f (Jmh f k n) (JaV k) := by kernel_rfl
theorem Jpi (f : Nat) (k : Kont) : ∀ n, Jmh f k n = GK f (JaV k) n
 | 0 => rfl
 | n + 1 => (Jxc f k n).trans (congrArg (fun r => JaU f r (JaV k)) (Jpi f k n))
def JeM (f : Nat) : List PV -> List (Nat × Ent) -> Kont -> OR
 | [.ro 26 v0 v1 v2, .sc (.int .i64 v3), .ro 26 v4 v5 v6, .sc (.int .i64 v7),
 .sc (.int .i64 v8)], [], k => GK f (JaV k) f v0 v1 v2 v3 v4 v5 v6 v7 v8
 | _, _, _ => none
theorem JC7 (f : Nat) : Jf Jph JsH = [] := by kernel_rfl
theorem JC8 (f : Nat) : (Item.l Jph JeL N97 (JeM f)).Ok tau Tryz.prog 0 := Jt Jn Jmf Jo (x := JsH) (nm2 := Jmg) (Jl _ _ (by rw [JC7 f]; intro q hq; cases hq)) fun vs hp k res hr => by
 unfold JeM at hr
 split at hr
 · rw [← Jpi f] at hr; exact ⟨f, 0, hr⟩
 · cases hr
def JaW (f : Nat) (rc : Nat -> Bool -> Bool -> List PV -> Int -> Int -> Bool -> List PV -> OR) (k0 : Nat -> Bool -> List PV -> OR) (v0 : Nat) (v1 v2 : Bool) (v3 : List PV) (v4 v5 : Int) (v6 : Bool) (v7 : List PV) : OR := bif decide (v5 < v4) then bif decide (0 <= v5) && decide (v5 < zi v3.length) && PV.isRo 5 (v3.getD v5.toNat PV.top) && true then bif Je (v0 + (v3.getD v5.toNat PV.top).els.length) 1 && true then rc (v0 + (v3.getD v5.toNat PV.top).els.length) v1 v2 v3 v4 (IntKind.i64.wrap (v5 + 1)) (v6 && (v3.getD v5.toNat PV.top).els.isEmpty) (List.take v0 v7 ++ (v3.getD v5.toNat PV.top).els) else none else none else k0 v0 v6 v7
def YC (f : Nat) (k0 : Nat -> Bool -> List PV -> OR) : Nat -> Nat -> Bool -> Bool -> List PV -> Int -> Int -> Bool -> List PV -> OR
 | 0, _, _, _, _, _, _, _, _ => none
 | n + 1, v0, v1, v2, v3, v4, v5, v6, v7 => JaW f (YC f k0 n) k0 v0 v1 v2 v3 v4 v5 v6 v7
theorem Jxd (f : Nat) (k : Kont) (n v0 : Nat) (v1 v2 : Bool) (v3 : List PV) (v4 v5 : Int) (v6 : Bool) (v7 : List PV) : Jx tau 0 Zi (fun s k => ev tau F97 0 0 JgM (Jkr ) s k) (n + 1) (Ji Zi N97 [.ow 5 592 [] 0 v0 none, .ro 26 v1 v2 v3, .sc (.int .i64 v4), .sc (.int .i64 v5)] [(592, .vec false 5 v6 v7)]) (JG tau 0 Vi k) = JaW f (fun v0 v1 v2 v3 v4 v5 v6 v7 => Jx tau 0 Zi (fun s k => ev tau F97 0 0 JgM (Jkr ) s k) n (Ji Zi N97 [.ow 5 592 [] 0 v0 none, .ro 26 v1 v2 v3, .sc (.int .i64 v4), .sc (.int .i64 v5)] [(592, .vec false 5 v6 v7)]) (JG tau 0 Vi k)) (fun x0 x1 x2 => k (Ex.exit 2) (Ji Vi N97 [.ow 5 592 [] 0 x0 none] [(592, .vec false 5 x1 x2)])) v0 v1 v2 v3 v4 v5 v6 v7 := by kernel_rfl
theorem Jpj (f : Nat) (k : Kont) : ∀ (n v0 : Nat) (v1 v2 : Bool) (v3 : List PV) (v4 v5 : Int) (v6 : Bool) (v7 : List PV), Jx tau 0 Zi (fun s k => ev tau F97 0 0 JgM (Jkr ) s k) n (Ji Zi N97 [.ow 5 592 [] 0 v0 none, .ro 26 v1 v2 v3, .sc (.int .i64 v4), .sc (.int .i64 v5)] [(592, .vec false 5 v6 v7)]) (JG tau 0 Vi k) = YC f (fun x0 x1 x2 => k (Ex.exit 2) (Ji Vi N97 [.ow 5 592 [] 0 x0 none] [(592, .vec false 5 x1 x2)])) n v0 v1 v2 v3 v4 v5 v6 v7 | 0, _, _, _, _, _, _, _, _ => rfl | n + 1, v0, v1, v2, v3, v4, v5, v6, v7 => (Jxd f k n v0 v1 v2 v3 v4 v5 v6 v7).trans (congrArg (fun r => JaW f r (fun x0 x1 x2 => k (Ex.exit 2) (Ji Vi N97 [.ow 5 592 [] 0 x0 none] [(592, .vec false 5 x1 x2)])) v0 v1 v2 v3 v4 v5 v6 v7) (by funext v0 v1 v2 v3 v4 v5 v6 v7; exact Jpj f k n v0 v1 v2 v3 v4 v5 v6 v7))
def JeN (f : Nat) : List PV -> List (Nat × Ent) -> Kont -> OR
 | [.ow 5 592 [] 0 v0 none, .ro 26 v1 v2 v3, .sc (.int .i64 v4),
 PV.sc
  (Value.int IntKind.i64
   v5)], [(592, .vec false 5 v6 v7)], k => YC f (fun x0 x1 x2 => k (Ex.exit 2) (Ji Vi N97 [.ow 5 592 [] 0 x0 none] [(592, .vec false 5 x1 x2)])) f v0 v1 v2 v3 v4 v5 v6 v7
 | _, _, _ => none
theorem JC9 (f : Nat) : Jf JgM Jkr = [] := by kernel_rfl
theorem JDa (f : Nat) : (Item.l JgM Zi N97 (JeN f)).Ok tau Tryz.prog 0 := Jt Jn Jmf Jo (x := Jkr) (nm2 := Vi) (Jl _ _ (by rw [JC9 f]; intro q hq; cases hq)) fun vs hp k res hr => by
 unfold JeN at hr
 split at hr
 · exact ⟨f, 0, (Jpj f _ f _ _ _ _ _ _ _ _ ).trans hr⟩
 · cases hr
def g97 (f : Nat) (y0 y1 : Bool) (slices : List PV) (k : KR) : OR := GK f (fun x0_0 x1_0 x2_0 JP => bif decide (JP < 0) then none else bif decide (IntKind.i64.wrap (JP - IntKind.i64.wrap (zi 0 - zi 0)) > 0) then bif decide (0 <= IntKind.i64.wrap (JP - IntKind.i64.wrap (zi 0 - zi 0))) && Je (IntKind.i64.wrap (JP - IntKind.i64.wrap (zi 0 - zi 0))).toNat 1 && true then YC f (fun x0_1 x1_1 x2_1 => k (Res.mk (.ow 5 16 [] 0 x0_1 none) [] [.vec false 5 x1_1 x2_1])) f (0) x0_0 x1_0 x2_0 (zi x2_0.length) (0) (IntKind.i64.wrap (JP - IntKind.i64.wrap (zi 0 - zi 0)) == 0) (List.replicate (IntKind.i64.wrap (JP - IntKind.i64.wrap (zi 0 - zi 0))).toNat (.sc (.int .u8 0))) else none else YC f (fun x0_2 x1_2 x2_2 => k (Res.mk (.ow 5 16 [] 0 x0_2 none) [] [.vec false 5 x1_2 x2_2])) f (0) x0_0 x1_0 x2_0 (zi x2_0.length) (0) true ([])) f y0 y1 slices (0) y0 y1 slices (zi slices.length) (0)
theorem e97 (f : Nat) (y0 y1 : Bool) (slices : List PV) (k : KR) : JI tau F97 Tryz.f97 (Tryz.f97.body.get!) (Jxb (JeM f) (JeN f)) [] 0 [.ro 26 y0 y1 slices] [] k = g97 f y0 y1 slices k := by kernel_rfl
theorem JOh (f : Nat) : Jf (Tryz.f97.body.get!) (Jxb (JeM f) (JeN f)) = [.l Jph JeL N97 (JeM f), .l JgM Zi N97 (JeN f)] := by kernel_rfl
theorem JOi (f : Nat) : ∀ q ∈ Jf (Tryz.f97.body.get!) (Jxb (JeM f) (JeN f)), q.Ok tau Tryz.prog 0 := by rw [JOh f]; exact JJ (JC8 f) (JJ (JDa f) (fun _ h => nomatch h))
theorem JHU : Tryz.prog.funcs[97]? = some Tryz.f97 := by kernel_rfl
theorem JHV : Tryz.f97.body = some (Tryz.f97.body.get!) := by kernel_rfl
theorem JDb : Enters Tryz.prog 97 := enters_of JHU (by kernel_rfl) JHV
def JH (l : List PV) : List PV := (l.map PV.els).flatten
@[simp] theorem JaX : JH [] = [] := rfl
@[simp] theorem XQ (p : PV) (l : List PV) : JH (p :: l) = p.els ++ JH l := by simp [JH]
theorem Jdr (a b : List PV) : JH (a ++ b) = JH a ++ JH b := by simp [JH]
theorem JeO (l : List PV) (i : Nat) (h : i < l.length) : l.take (i + 1) = l.take i ++ [l.getD i .top] := by
 rw [List.take_add_one, List.getD_eq_getElem?_getD, List.getElem?_eq_getElem h]; rfl
theorem JeP (l : List PV) (i : Nat) (h : i < l.length) : l.drop i = l.getD i .top :: l.drop (i + 1) := by
 rw [List.drop_eq_getElem_cons h, List.getD_eq_getElem?_getD, List.getElem?_eq_getElem h]; rfl
theorem XR (l : List PV) (i : Nat) (h : i < l.length) : JH (l.take (i + 1)) = JH (l.take i) ++ (l.getD i .top).els := by
 rw [JeO l i h, Jdr, XQ, JaX, List.append_nil]
theorem XF (l : List PV) (i : Nat) : (JH (l.take i)).length <= (JH l).length := by
 have : JH l = JH (l.take i) ++ JH (l.drop i) := by rw [← Jdr, List.take_append_drop]
 rw [this, List.length_append]; omega
theorem JgN {l : List PV} (h : l.all (PV.isRo 5) = true) {i : Nat} (hi : i < l.length) : (l.getD i .top).isRo 5 = true := by
 rw [List.getD_eq_getElem?_getD, List.getElem?_eq_getElem hi]
 exact List.all_eq_true.1 h _ (List.getElem_mem hi)
theorem Jds {α : Type} (a b : List α) : (a ++ b).isEmpty = (a.isEmpty && b.isEmpty) := by cases a <;> rfl
theorem JAm (f : Nat) (k0 : Bool -> Bool -> List PV -> Int -> OR) (a b : Bool) (c : List PV) (nl fl : Bool) (l : List PV) (hl : l.all (PV.isRo 5) = true) (hs : (JH l).length <= 140737488355328) (hn : l.length <= 140737488355328) : ∀ (d i n : Nat), i + d = l.length -> d < n ->
  GK f k0 n a b c ((JH (l.take i)).length : Int) nl fl l (l.length : Int) (i : Int) = k0 a b c ((JH l).length : Int)
 | 0, i, n + 1, h, hd => by
   obtain rfl : i = l.length := by omega
   simp only [GK, JaU]
   exact (Jd (by simp)).trans (by rw [List.take_length])
 | d + 1, i, n + 1, h, hd => by
   have hle := XF l (i + 1)
   have hadd : (JH (l.take (i + 1))).length = (JH (l.take i)).length + (l.getD i .top).els.length := by rw [XR l i (by omega), List.length_append]
   have h1 := wI (i := i) (by omega)
   have h2 : IntKind.i64.wrap (((JH (l.take i)).length : Int) + ((l.getD i .top).els.length : Int)) = ((JH (l.take (i + 1))).length : Int) := by rw [wrap_i64 (by omega) (by omega)]; omega
   simp only [GK, JaU, zi, Int.toNat_natCast, h1, h2]
   refine (Ja (by simp <;> omega)).trans ?_
   refine (Ja (by rw [JgN hl (by omega)]; simp; omega)).trans ?_
   refine (Jd (by simp <;> omega)).trans ?_
   exact JAm f k0 a b c nl fl l hl hs hn d (i + 1) n (by omega) (by omega)
theorem JsJ (f : Nat) (k0 : Nat -> Bool -> List PV -> OR) (nl fl : Bool) (l : List PV) (hl : l.all (PV.isRo 5) = true) (hs : (JH l).length <= 140737488355328) (hn : l.length <= 140737488355328) : ∀ (d i n : Nat) (z : Bool) (v : List PV), i + d = l.length -> d < n -> v.take (JH (l.take i)).length = JH (l.take i) -> (d = 0 -> v = JH l) ->
  YC f k0 n (JH (l.take i)).length nl fl l (l.length : Int) (i : Int) z v = k0 (JH l).length (z && (JH (l.drop i)).isEmpty) (JH l)
 | 0, i, n + 1, z, v, h, hd, hv, h0 => by
   obtain rfl : i = l.length := by omega
   simp only [YC, JaW]
   refine (Jd (by simp)).trans ?_
   rw [List.take_length, h0 rfl, List.drop_length]; simp
 | d + 1, i, n + 1, z, v, h, hd, hv, h0 => by
   have hle := XF l (i + 1)
   have hadd : (JH (l.take (i + 1))).length = (JH (l.take i)).length + (l.getD i .top).els.length := by rw [XR l i (by omega), List.length_append]
   have h1 := wI (i := i) (by omega)
   simp only [YC, JaW, zi, Int.toNat_natCast, h1, hv]
   refine (Ja (by simp <;> omega)).trans ?_
   refine (Ja (by rw [JgN hl (by omega)]; simp; omega)).trans ?_
   refine (Ja (by simp only [Je, Bool.and_true, decide_eq_true_eq]; omega)).trans ?_
   have := JsJ f k0 nl fl l hl hs hn d (i + 1) n (z && (l.getD i .top).els.isEmpty) (JH (l.take (i + 1))) (by omega) (by omega) (List.take_length) (fun hd0 => by rw [show i + 1 = l.length from by omega, List.take_length])
   rw [hadd, XR l i (by omega)] at this
   rw [this, JeP l i (by omega), XQ, Jds, Bool.and_assoc]
def Jmi : Jy
 | [.ro 26 nl fl l], [], k => bif l.all (PV.isRo 5) && (decide ((JH l).length <= 140737488355328) && decide (l.length <= 140737488355328)) then k ⟨.ow 5 16 [] 0 (JH l).length none, [], [.vec false 5 (JH l).isEmpty (JH l)]⟩ else none
 | _, _, _ => none
def Jxe : Sig := { own := [], run := Jmi }
theorem JDc (nl fl : Bool) (l : List PV) (k : KR) (hl : l.all (PV.isRo 5) = true) (hs : (JH l).length <= 140737488355328) (hn : l.length <= 140737488355328) :
  g97 (l.length + 1) nl fl l k = k ⟨.ow 5 16 [] 0 (JH l).length none, [], [.vec false 5 (JH l).isEmpty (JH l)]⟩ := by
 have h0 := JAm (l.length + 1) (fun x0_0 x1_0 x2_0 JP =>
  bif decide (JP < 0) then
   none
  else bif decide (IntKind.i64.wrap (JP - IntKind.i64.wrap (zi 0 - zi 0)) > 0) then
   bif decide (0 <= IntKind.i64.wrap (JP - IntKind.i64.wrap (zi 0 - zi 0))) && Je (IntKind.i64.wrap (JP - IntKind.i64.wrap (zi 0 - zi 0))).toNat 1 && true then
    YC (l.length + 1) (fun x0_1 x1_1 x2_1 =>
     k (Res.mk (PV.ow 5 16 [] 0 x0_1 none) []
      [Ent.vec false 5 x1_1
       x2_1])) (l.length + 1) (0) x0_0 x1_0 x2_0 (zi
     x2_0.length) (0) (IntKind.i64.wrap (JP - IntKind.i64.wrap (zi 0 - zi 0)) ==
     0) (List.replicate (IntKind.i64.wrap (JP - IntKind.i64.wrap (zi 0 - zi 0))).toNat (PV.sc (Value.int IntKind.u8 0)))
   else none
  else YC (l.length + 1) (fun x0_2 x1_2 x2_2 =>
   k (Res.mk (PV.ow 5 16 [] 0 x0_2 none) [] [Ent.vec false 5 x1_2 x2_2])) (l.length + 1) (0) x0_0 x1_0 x2_0 (zi x2_0.length) (0) true ([])) nl fl l nl fl l hl hs hn l.length 0 (l.length + 1) (by omega) (by omega)
 refine h0.trans ?_
 have hw : IntKind.i64.wrap (((JH l).length : Int) - IntKind.i64.wrap (zi 0 - zi 0)) = ((JH l).length : Int) := by
  have : IntKind.i64.wrap (zi 0 - zi 0) = 0 := by decide
  rw [this, wrap_i64 (by omega) (by omega)]; omega
 simp only [hw]
 refine (Jd (by simp <;> omega)).trans ?_
 cases he : (JH l).isEmpty with
 | true =>
  have he' : JH l = [] := by simpa using he
  refine (Jd (by simp [he'])).trans ?_
  have := JsJ (l.length + 1) (fun x0_2 x1_2 x2_2 => k (Res.mk (PV.ow 5 16 [] 0 x0_2 none) [] [Ent.vec false 5 x1_2 x2_2])) nl fl l hl hs hn l.length 0 (l.length + 1) true [] (by omega) (by omega) (by simp) (fun _ => he'.symm)
  refine this.trans ?_
  simp [he']
 | false =>
  have he' : JH l ≠ [] := by simpa using he
  have hpos : 0 < (JH l).length := List.length_pos_iff.2 he'
  have hl0 : l.length ≠ 0 := by
   intro h; rw [List.length_eq_zero_iff] at h; subst h; simp at he'
  refine (Ja (by simp <;> omega)).trans ?_
  refine (Ja (by simp [Je] <;> omega)).trans ?_
  have := JsJ (l.length + 1) (fun x0_2 x1_2 x2_2 => k (Res.mk (PV.ow 5 16 [] 0 x0_2 none) [] [Ent.vec false 5 x1_2 x2_2])) nl fl l hl hs hn l.length 0 (l.length + 1) (((JH l).length : Int) == 0) (List.replicate (((JH l).length : Int)).toNat (PV.sc (Value.int IntKind.u8 0))) (by omega) (by omega) (by simp) (fun h => absurd h hl0)
  refine this.trans ?_
  have hz : (((JH l).length : Int) == 0) = false := by simp [he']
  rw [hz]; rfl
theorem JsK : Jc tau Tryz.prog 97 Jxe := JhG Jn Jmf Jo JHU JHV (fun n => Jxb (JeM n) (JeN n)) [] 0 [] Jmi (fun n => JOi n) fun xs es k res hr => by
 unfold Jmi at hr
 split at hr
 · rename_i nl fl l
   obtain ⟨hc, hr⟩ := Ju hr
   simp only [Bool.and_eq_true, decide_eq_true_eq] at hc
   refine ⟨rfl, l.length + 1, 0, (e97 _ _ _ _ _).trans ?_⟩
   rw [JDc _ _ _ _ hc.1 hc.2.1 hc.2.2]; exact hr
 · cases hr
def N96 : Nat := 33
def F96 : Fns := F0
theorem Jmj : Jp tau Tryz.prog F96 := Js
def JeQ : Code := Qd (Tryz.f96.body.get!) [1, 0, 1, 1, 1, 1, 0, 1, 0, 0]
def YD : Nm := [(0, .any), (3, .any), (19, .any)]
def Vj : Nm := [(0, .any)]
def Jks : An := (.seq .leaf (.seq (.cond .leaf .leaf) (.seq (.block none (.seq .leaf .leaf)) .leaf)))
def JaY : Code := Qd (Tryz.f96.body.get!) [1, 0]
def Zj : Nm := [(0, .any), (3, .any)]
def Vk : Nm := [(2, .any)]
def JgO (r1 : Qt) : An := (.seq .leaf (.seq .leaf (.seq .leaf (.seq (.seq .leaf (.cond (.seq .leaf .leaf) .leaf)) (.seq (.seq .leaf (.block none (.sum YD N96 r1))) (.seq .leaf .leaf))))))
def JDd (r0 : Jsm) (r1 : Qt) : An := (.seq .leaf (.ssum Zj N96 (JgO r1) r0))
def JaZ (f : Nat) (rc : Nat -> Int -> Int -> Bool -> List PV -> OR) (k0 : Nat -> Bool -> List PV -> OR) (v0 : Nat) (v1 v2 : Int) (v3 : Bool) (v4 : List PV) : OR := bif decide (v2 < 8) then bif decide (0 <= IntKind.i64.wrap (56 - IntKind.i64.wrap (8 * v2))) && true then bif Je (v0 + 1) 1 && true then rc (v0 + 1) v1 (IntKind.i64.wrap (v2 + 1)) (v3 && false) (List.take v0 v4 ++ [.sc (.int .u8 (IntKind.u8.wrap (JV IntKind.u64 v1 (IntKind.i64.wrap (56 - IntKind.i64.wrap (8 * v2))))))]) else none else none else k0 v0 v3 v4
def YE (f : Nat) (k0 : Nat -> Bool -> List PV -> OR) : Nat -> Nat -> Int -> Int -> Bool -> List PV -> OR
 | 0, _, _, _, _, _ => none
 | n + 1, v0, v1, v2, v3, v4 => JaZ f (YE f k0 n) k0 v0 v1 v2 v3 v4
theorem Jxf (f : Nat) (k : Kont) (n v0 : Nat) (v1 v2 : Int) (v3 : Bool) (v4 : List PV) : Jx tau 1 YD (fun s k => ev tau F96 1 0 JeQ (Jks ) s k) (n + 1) (Ji YD N96 [.ow 5 545 [] 0 v0 none, .sc (.int .u64 v1), .sc (.int .i64 v2)] [(0, .dead), (545, .vec false 5 v3 v4)]) (JG tau 1 Vj k) = JaZ f (fun v0 v1 v2 v3 v4 => Jx tau 1 YD (fun s k => ev tau F96 1 0 JeQ (Jks ) s k) n (Ji YD N96 [.ow 5 545 [] 0 v0 none, .sc (.int .u64 v1), .sc (.int .i64 v2)] [(0, .dead), (545, .vec false 5 v3 v4)]) (JG tau 1 Vj k)) (fun x0 x1 x2 => k (Ex.exit 0) (Ji Vj N96 [.ow 5 545 [] 0 x0 none] [(0, .dead), (545, .vec false 5 x1 x2)])) v0 v1 v2 v3 v4 := by kernel_rfl
theorem Jpk (f : Nat) (k : Kont) : ∀ (n v0 : Nat) (v1 v2 : Int) (v3 : Bool) (v4 : List PV), Jx tau 1 YD (fun s k => ev tau F96 1 0 JeQ (Jks ) s k) n (Ji YD N96 [.ow 5 545 [] 0 v0 none, .sc (.int .u64 v1), .sc (.int .i64 v2)] [(0, .dead), (545, .vec false 5 v3 v4)]) (JG tau 1 Vj k) = YE f (fun x0 x1 x2 => k (Ex.exit 0) (Ji Vj N96 [.ow 5 545 [] 0 x0 none] [(0, .dead), (545, .vec false 5 x1 x2)])) n v0 v1 v2 v3 v4 | 0, _, _, _, _, _ => rfl | n + 1, v0, v1, v2, v3, v4 => (Jxf f k n v0 v1 v2 v3 v4).trans (congrArg (fun r => JaZ f r (fun x0 x1 x2 => k (Ex.exit 0) (Ji Vj N96 [.ow 5 545 [] 0 x0 none] [(0, .dead), (545, .vec false 5 x1 x2)])) v0 v1 v2 v3 v4) (by funext v0 v1 v2 v3 v4; exact Jpk f k n v0 v1 v2 v3 v4))
def ZW (f : Nat) : List PV -> List (Nat × Ent) -> Kont -> OR
 | [.ow 5 545 [] 0 v0 none, .sc (.int .u64 v1),
 PV.sc
  (Value.int IntKind.i64
   v2)], [(0, .dead),
 (545, .vec false 5 v3 v4)], k => YE f (fun x0 x1 x2 => k (Ex.exit 0) (Ji Vj N96 [.ow 5 545 [] 0 x0 none] [(0, .dead), (545, .vec false 5 x1 x2)])) f v0 v1 v2 v3 v4
 | _, _, _ => none
theorem JDe (f : Nat) : Jf JeQ Jks = [] := by kernel_rfl
theorem JsL (f : Nat) : (Item.l JeQ YD N96 (ZW f)).Ok tau Tryz.prog 1 := Jt Jn Jmj Jo (x := Jks) (nm2 := Vj) (Jl _ _ (by rw [JDe f]; intro q hq; cases hq)) fun vs hp k res hr => by
 unfold ZW at hr
 split at hr
 · exact ⟨f, 0, (Jpk f _ f _ _ _ _ _ ).trans hr⟩
 · cases hr
def Ja0 (f : Nat) (rc : Nat -> Int -> Bool -> List PV -> OR) (k0 : Nat -> Bool -> List PV -> OR) (v0 : Nat) (v1 : Int) (v2 : Bool) (v3 : List PV) : OR := bif (zi v0).tmod 64 != 56 then bif Je (v0 + 1) 1 && true then rc (v0 + 1) v1 (v2 && false) (List.take v0 v3 ++ [.sc (.int .u8 0)]) else none else YE f k0 f v0 v1 (0) v2 v3
def GL (f : Nat) (k0 : Nat -> Bool -> List PV -> OR) : Nat -> Nat -> Int -> Bool -> List PV -> OR
 | 0, _, _, _, _ => none
 | n + 1, v0, v1, v2, v3 => Ja0 f (GL f k0 n) k0 v0 v1 v2 v3
theorem Jxg (f : Nat) (k : Kont) (n v0 : Nat) (v1 : Int) (v2 : Bool) (v3 : List PV) : Q5 tau 1 Zj (hasLabel JaY) (fun l s k => Qh tau F96 1 0 JaY (JgO (ZW f)) l s k) (n + 1) 0 (Ji Zj N96 [.ow 5 545 [] 0 v0 none, .sc (.int .u64 v1)] [(0, .dead), (545, .vec false 5 v2 v3)]) (JG tau 1 Vk k) = Ja0 f (fun v0 v1 v2 v3 => Q5 tau 1 Zj (hasLabel JaY) (fun l s k => Qh tau F96 1 0 JaY (JgO (ZW f)) l s k) n 0 (Ji Zj N96 [.ow 5 545 [] 0 v0 none, .sc (.int .u64 v1)] [(0, .dead), (545, .vec false 5 v2 v3)]) (JG tau 1 Vk k)) (fun x0 x1 x2 => k Ex.ret (Ji Vk N96 [.ow 5 545 [] 0 x0 none] [(0, .dead), (545, .vec false 5 x1 x2)])) v0 v1 v2 v3 := by kernel_rfl
theorem Jpl (f : Nat) (k : Kont) : ∀ (n v0 : Nat) (v1 : Int) (v2 : Bool) (v3 : List PV), Q5 tau 1 Zj (hasLabel JaY) (fun l s k => Qh tau F96 1 0 JaY (JgO (ZW f)) l s k) n 0 (Ji Zj N96 [.ow 5 545 [] 0 v0 none, .sc (.int .u64 v1)] [(0, .dead), (545, .vec false 5 v2 v3)]) (JG tau 1 Vk k) = GL f (fun x0 x1 x2 => k Ex.ret (Ji Vk N96 [.ow 5 545 [] 0 x0 none] [(0, .dead), (545, .vec false 5 x1 x2)])) n v0 v1 v2 v3 | 0, _, _, _, _ => rfl | n + 1, v0, v1, v2, v3 => (Jxg f k n v0 v1 v2 v3).trans (congrArg (fun r => Ja0 f r (fun x0 x1 x2 => k Ex.ret (Ji Vk N96 [.ow 5 545 [] 0 x0 none] [(0, .dead), (545, .vec false 5 x1 x2)])) v0 v1 v2 v3) (by funext v0 v1 v2 v3; exact Jpl f k n v0 v1 v2 v3))
def JgP (f : Nat) : Nat -> List PV -> List (Nat × Ent) -> Kont -> OR
 | 0, [.ow 5 545 [] 0 v0 none,
 PV.sc
  (Value.int IntKind.u64
   v1)], [(0, .dead),
 (545, .vec false 5 v2 v3)], k => GL f (fun x0 x1 x2 => k Ex.ret (Ji Vk N96 [.ow 5 545 [] 0 x0 none] [(0, .dead), (545, .vec false 5 x1 x2)])) f v0 v1 v2 v3
 | _, _, _, _ => none
theorem JDf (f : Nat) : Jf JaY (JgO (ZW f)) = [.l JeQ YD N96 (ZW f)] := by kernel_rfl
theorem JDg (f : Nat) : (Item.s JaY Zj N96 (JgP f)).Ok tau Tryz.prog 1 := X0 Jn Jmj Jo (x := (JgO (ZW f))) (nm2 := Vk) (Jl _ _ (by rw [JDf f]; simp only [List.forall_mem_cons, List.not_mem_nil, false_implies, implies_true, and_true]; exact JsL f)) fun l vs hp k res hr => by
 unfold JgP at hr
 split at hr
 · exact ⟨f, 0, (Jpl f _ f _ _ _ _ ).trans hr⟩
 · cases hr
def g96 (f : Nat) (nl : Bool) (l : List PV) (n : Nat) (k : KR) : OR := bif Je (n + 1) 1 && true then bif (zi (n + 1)).tmod 64 != 56 then bif Je (n + 1 + 1) 1 && true then GL f (fun x0_1 x1_1 x2_1 => k (Res.mk (.ow 5 16 [] 0 x0_1 none) [.dead] [.vec false 5 x1_1 x2_1])) f (n + 1 + 1) (IntKind.u64.wrap (IntKind.u64.wrap (zi n) * 8)) (nl && false && false) (List.take (n + 1) (List.take n l ++ [.sc (.int .u8 128)]) ++ [.sc (.int .u8 0)]) else none else YE f (fun x0_2 x1_2 x2_2 => k (Res.mk (.ow 5 16 [] 0 x0_2 none) [.dead] [.vec false 5 x1_2 x2_2])) f (n + 1) (IntKind.u64.wrap (IntKind.u64.wrap (zi n) * 8)) (0) (nl && false) (List.take n l ++ [.sc (.int .u8 128)]) else none
theorem e96 (f : Nat) (nl : Bool) (l : List PV) (n : Nat) (k : KR) : JI tau F96 Tryz.f96 (Tryz.f96.body.get!) (JDd (JgP f) (ZW f)) [] 0 [.ow 5 0 [] 0 n none] [.vec false 5 nl l] k = g96 f nl l n k := by kernel_rfl
theorem JOj (f : Nat) : Jf (Tryz.f96.body.get!) (JDd (JgP f) (ZW f)) = [.s JaY Zj N96 (JgP f), .l JeQ YD N96 (ZW f)] := by kernel_rfl
theorem JOk (f : Nat) : ∀ q ∈ Jf (Tryz.f96.body.get!) (JDd (JgP f) (ZW f)), q.Ok tau Tryz.prog 1 := by rw [JOj f]; exact JJ (JDg f) (JJ (JsL f) (fun _ h => nomatch h))
theorem JHW : Tryz.prog.funcs[96]? = some Tryz.f96 := by kernel_rfl
theorem JHX : Tryz.f96.body = some (Tryz.f96.body.get!) := by kernel_rfl
theorem JOl : Enters Tryz.prog 96 := enters_of JHW (by kernel_rfl) JHX
def JDh (n : Int) (i : Nat) : Int := IntKind.u8.wrap (JV .u64 n (56 - 8 * (i : Int)))
theorem JAn (f : Nat) (N : Int) (k0 : Nat -> Bool -> List PV -> OR) (L : List Int) (hL : L.length <= 140737488355300) : ∀ (d i n : Nat) (z : Bool), i + d = 8 -> d < n -> (d = 0 -> z = false) ->
  YE f k0 n (L.length + i) N (i : Int) z (pu .u8 (L ++ (List.range i).map (JDh N))) = k0 (L.length + 8) false (pu .u8 (L ++ (List.range 8).map (JDh N)))
 | 0, i, n + 1, z, h, hn, hz => by
   obtain rfl : i = 8 := by omega
   simp only [YE, JaZ]
   rw [hz rfl]
   exact Jd (by decide)
 | d + 1, i, n + 1, z, h, hn, hz => by
   have h1 := wI (i := i) (by omega)
   have h8 : IntKind.i64.wrap (8 * (i : Int)) = 8 * (i : Int) := wrap_i64 (by omega) (by omega)
   have h9 : IntKind.i64.wrap (56 - 8 * (i : Int)) = 56 - 8 * (i : Int) := wrap_i64 (by omega) (by omega)
   have c1 : decide ((i : Int) < 8) = true := by simp; omega
   have c2 : decide (0 <= 56 - 8 * (i : Int)) = true := by simp; omega
   have c3 : Je (L.length + i + 1) 1 = true := by simp [Je]; omega
   have hlen : (L ++ (List.range i).map (JDh N)).length = L.length + i := by simp
   simp only [YE, JaZ, h1, h8, h9, c1, c2, c3, Bool.and_true, cond_true, Yk, Bool.and_false]
   rw [List.take_of_length_le (by omega)]
   have := JAn f N k0 L hL d (i + 1) n false (by omega) (by omega) (fun _ => rfl)
   rw [List.range_succ, List.map_append, ← List.append_assoc, Qa] at this
   exact this
theorem JAo (f : Nat) (N : Int) (k0 : Nat -> Bool -> List PV -> OR) (hf : 9 <= f) : ∀ (d n : Nat) (L : List Int) (z : Bool), zs L.length = d -> d < n -> L.length + d <= 140737488355200 ->
  GL f k0 n L.length N z (pu .u8 L) = YE f k0 f (L.length + d) N 0 (z && decide (d = 0)) (pu .u8 (L ++ List.replicate d 0))
 | 0, n + 1, L, z, hd, hn, hL => by
   simp only [GL, Ja0, JeK]
   refine (Jd (by simp [zs] at hd ⊢; omega)).trans ?_
   simp
 | d + 1, n + 1, L, z, hd, hn, hL => by
   have hlt : d + 1 < 64 := by rw [← hd]; unfold zs; omega
   have c3 : Je (L.length + 1) 1 = true := by simp [Je]; omega
   simp only [GL, Ja0, JeK, c3, Bool.and_true, cond_true, Yk, Bool.and_false]
   refine (Ja (by simp [zs] at hd ⊢; omega)).trans ?_
   rw [List.take_of_length_le (Nat.le_refl _)]
   have := JAo f N k0 hf d n (L ++ [0]) false (by simp [zs] at hd ⊢; omega) (by omega) (by simp; omega)
   simp only [List.length_append, List.length_cons, List.length_nil, Nat.zero_add, Qa] at this
   refine this.trans ?_
   rw [show L.length + 1 + d = L.length + (d + 1) from by omega, List.replicate_succ]
   simp
theorem JDi (nl : Bool) (bs : List Int) (hb : bs.length <= 140737488355000) (k : KR) : g96 100 nl (pu .u8 bs) bs.length k = k ⟨.ow 5 16 [] 0 (Q7 bs).length none, [.dead], [.vec false 5 false (pu .u8 (Q7 bs))]⟩ := by
 have c1 : (Je (bs.length + 1) 1 && true) = true := by simp [Je]; omega
 have c2 : (Je (bs.length + 1 + 1) 1 && true) = true := by simp [Je]; omega
 have hlen : (Q7 bs).length = bs.length + 1 + zs (bs.length + 1) + 8 := by simp [Q7, Jw9]; omega
 have hz : zs (bs.length + 1) < 64 := by unfold zs; omega
 refine (Ja c1).trans ?_
 rw [JeK, Yk, List.take_of_length_le (Nat.le_refl _)]
 have fin : ∀ z, YE 100 (fun x0_2 x1_2 x2_2 => k (Res.mk (PV.ow 5 16 [] 0 x0_2 none) [Ent.dead] [Ent.vec false 5 x1_2 x2_2])) 100 (bs.length + 1 + zs (bs.length + 1)) (IntKind.u64.wrap (IntKind.u64.wrap (zi bs.length) * 8)) 0 z (pu .u8 (bs ++ [128] ++ List.replicate (zs (bs.length + 1)) 0)) = k ⟨.ow 5 16 [] 0 (Q7 bs).length none, [.dead], [.vec false 5 false (pu .u8 (Q7 bs))]⟩ := by
  intro z
  have := JAn 100 (IntKind.u64.wrap (IntKind.u64.wrap (zi bs.length) * 8)) (fun x0_2 x1_2 x2_2 => k (Res.mk (PV.ow 5 16 [] 0 x0_2 none) [Ent.dead] [Ent.vec false 5 x1_2 x2_2])) (bs ++ [128] ++ List.replicate (zs (bs.length + 1)) 0) (by simp; omega) 8 0 100 z (by omega) (by omega) (by omega)
  have hl2 : (bs ++ [128] ++ List.replicate (zs (bs.length + 1)) 0).length = bs.length + 1 + zs (bs.length + 1) := by simp; omega
  rw [hl2] at this
  simp only [List.range_zero, List.map_nil, List.append_nil, Nat.add_zero] at this
  rw [hlen]
  exact this
 cases hc : (((((bs.length + 1) % 64 : Nat) : Int)) != 56) with
 | true =>
  refine (Ja rfl).trans ((Ja c2).trans ?_)
  have hc' : ((bs.length + 1) % 64 : Nat) ≠ 56 := by simp at hc; omega
  have hz1 : zs (bs.length + 1 + 1) + 1 = zs (bs.length + 1) := by unfold zs; omega
  have := JAo 100 (IntKind.u64.wrap (IntKind.u64.wrap (zi bs.length) * 8)) (fun x0_1 x1_1 x2_1 => k (Res.mk (PV.ow 5 16 [] 0 x0_1 none) [Ent.dead] [Ent.vec false 5 x1_1 x2_1])) (by omega) (zs (bs.length + 1 + 1)) 100 (bs ++ [128] ++ [0]) (nl && false && false) (by simp) (by unfold zs; omega) (by simp; omega)
  have h0 : pu .u8 (bs ++ [128] ++ [0]) = List.take (bs.length + 1) (pu .u8 bs ++ [PV.sc (Value.int IntKind.u8 128)]) ++ [PV.sc (Value.int IntKind.u8 0)] := by
   rw [List.take_of_length_le (by simp)]; simp
  rw [h0] at this
  simp only [List.length_append, List.length_cons, List.length_nil, Nat.zero_add] at this
  refine this.trans ?_
  have h3 : bs ++ [128] ++ [0] ++ List.replicate (zs (bs.length + 1 + 1)) 0 = bs ++ [128] ++ List.replicate (zs (bs.length + 1)) 0 := by
   rw [← hz1, List.replicate_succ]; simp
  rw [h3, show bs.length + 1 + 1 + zs (bs.length + 1 + 1) = bs.length + 1 + zs (bs.length + 1) from by omega]
  exact fin _
 | false =>
  refine (Jd rfl).trans ?_
  have hc' : ((bs.length + 1) % 64 : Nat) = 56 := by simp at hc; omega
  have hz0 : zs (bs.length + 1) = 0 := by unfold zs; omega
  have := fin (nl && false)
  rw [hz0] at this
  simpa using this
def Jmk : Jy
 | [.ow 5 0 [] 0 n none], [.vec false 5 nl l], k => bif Jk .u8 l && (decide (n = l.length) && decide (l.length <= 140737488355000)) then k ⟨.ow 5 16 [] 0 (Q7 (JC l)).length none, [.dead], [.vec false 5 false (pu .u8 (Q7 (JC l)))]⟩ else none
 | _, _, _ => none
def JHY : Sig := { own := [true], run := Jmk }
theorem JHZ : Jc tau Tryz.prog 96 JHY := JN Jn Jmj Jo JHW JHX _ [] 1 [true] Jmk (JOk 100) fun xs es k res hr => by
 unfold Jmk at hr
 split at hr
 · obtain ⟨hc, hr⟩ := Ju hr
   simp only [Bool.and_eq_true, decide_eq_true_eq] at hc
   refine ⟨rfl, 0, (e96 100 _ _ _ _).trans ?_⟩
   rw [hc.2.1, QC hc.1, JD, JDi _ _ (by simpa using hc.2.2)]
   exact hr
 · cases hr
def F95 : Fns := F0
theorem JDj : Jp tau Tryz.prog F95 := Js
def JDk : An := (.seq .leaf (.seq .leaf .leaf))
def g95 (f : Nat) (k : KR) : OR := k (Res.mk (.ar 170 [.sc (.int .u32 1779033703), .sc (.int .u32 3144134277), .sc (.int .u32 1013904242), .sc (.int .u32 2773480762), .sc (.int .u32 1359893119), .sc (.int .u32 2600822924), .sc (.int .u32 528734635), .sc (.int .u32 1541459225)]) [] [])
theorem e95 (f : Nat) (k : KR) : JI tau F95 Tryz.f95 (Tryz.f95.body.get!) JDk [.ro] 0 [] [] k = g95 f k := by kernel_rfl
theorem JOm (f : Nat) : ∀ q ∈ Jf (Tryz.f95.body.get!) JDk, q.Ok tau Tryz.prog 0 := Jv (by kernel_rfl)
theorem JH0 : Tryz.prog.funcs[95]? = some Tryz.f95 := by kernel_rfl
theorem JH1 : Tryz.f95.body = some (Tryz.f95.body.get!) := by kernel_rfl
theorem JOn : Enters Tryz.prog 95 := enters_of JH0 (by kernel_rfl) JH1
def JsM : Jy
 | [], [], k => g95 0  k
 | _, _, _ => none
def s95 : Sig := { own := [], run := JsM }
theorem JOo : Jc tau Tryz.prog 95 s95 := JN Jn JDj Jo JH0 JH1 JDk [.ro] 0 [] JsM (JOm 0) fun xs es k res hr => by
 unfold JsM at hr
 split at hr
 · exact ⟨rfl, 0, (e95 0  _).trans hr⟩
 · cases hr
def N52 : Nat := 37
def F52 : Fns := Jr 95 s95 (Jr 96 JHY (Jr 97 Jxe (Jr 98 JHM F0)))
theorem Jml : Jp tau Tryz.prog F52 := (((Js.add JHN JOf).add JsK JDb).add JHZ JOl).add JOo JOn
def Jpm : Code := Qd (Tryz.f52.body.get!) [1, 1, 0, 1, 0, 0]
def JeR : Nm := [(2, .any), (3, .any), (4, .ro)]
def Jmm : Nm := [(2, .any), (3, .any)]
def JsN : An := (.seq (.seq .leaf (.cond .leaf .leaf)) (.seq (.block none .leaf) .leaf))
def Jpn : Code := Qd (Tryz.f52.body.get!) [1, 1, 1, 1, 0, 1, 0, 0]
def JeS : Nm := [(2, .any), (3, .any), (5, .any), (20, .any)]
def Jmn : Nm := [(2, .any), (5, .any)]
def JsO : An := (.seq .leaf (.seq (.cond .leaf .leaf) (.seq (.block none (.seq .leaf .leaf)) .leaf)))
def Jxh (r0 : Qt) (r1 : Qt) : An := (.seq .leaf (.seq .leaf (.seq (.seq .leaf (.block none (.sum JeR N52 r0))) (.seq .leaf (.seq (.seq .leaf (.block none (.sum JeS N52 r1))) (.seq .leaf .leaf))))))
abbrev JsP := List PV -> List PV -> List PV -> OR
def Ja1 (f : Nat) (rc : JsP) (k0 : List PV -> List PV -> OR) (v0 v1 v2 : List PV) : OR := bif decide (zi v0.length > 0) then bif decide (64 <= v0.length) && true then bif Jk IntKind.u32 v2 && decide (v2.length = 8) && (Jk IntKind.u8 (List.take 64 v0) && decide ((List.take 64 v0).length = 64)) then bif decide (64 <= v0.length) && decide (v0.length <= v0.length) && true then rc (List.drop 64 (List.take v0.length v0)) v1 (pu IntKind.u32 (Jmc (JC v2) (JC (List.take 64 v0)))) else none else none else none else k0 v1 v2
def Vl (f : Nat) (k0 : List PV -> List PV -> OR) : Nat -> JsP
 | 0 => fun _ _ _ => none
 | n + 1 => Ja1 f (Vl f k0 n) k0
def Ja2 (k : Kont) := fun x0 x1 => k (Ex.exit 0) (Ji Jmm N52 [.ptr 608 [], .ptr 609 []] [(608, .box false 28 (PV.ar 28 x0)), (609, .box false 170 (PV.ar 170 x1))])
def Jmo (f : Nat) (k : Kont) (n : Nat) (v0 v1 v2 : List PV) : OR := Jx tau 0 JeR (fun s k => ev tau F52 0 0 Jpm (JsN ) s k) n (Ji JeR N52 [.ptr 608 [], .ptr 609 [], .ro 5 false false v0] [(608, .box false 28 (PV.ar 28 v1)), (609, .box false 170 (PV.ar 170 v2))]) (JG tau 0 Jmm k)
theorem Jxi (f : Nat) (k : Kont) (n : Nat) : Jmo f k (n + 1) = Ja1 f (Jmo f k n) (Ja2 k) := by kernel_rfl
theorem Jpo (f : Nat) (k : Kont) : ∀ n, Jmo f k n = Vl f (Ja2 k) n
 | 0 => rfl
 | n + 1 => (Jxi f k n).trans (congrArg (fun r => Ja1 f r (Ja2 k)) (Jpo f k n))
def JeT (f : Nat) : List PV -> List (Nat × Ent) -> Kont -> OR
 | [.ptr 608 [], .ptr 609 [],
 PV.ro 5 false false
  v0], [(608, .box false 28 (PV.ar 28 v1)),
 (609,
  Ent.box false 170
   (PV.ar 170
    v2))], k => Vl f (Ja2 k) f v0 v1 v2
 | _, _, _ => none
theorem JDl (f : Nat) : Jf Jpm JsN = [] := by kernel_rfl
theorem JH2 (f : Nat) : (Item.l Jpm JeR N52 (JeT f)).Ok tau Tryz.prog 0 := Jt Jn Jml Jo (x := JsN) (nm2 := Jmm) (Jl _ _ (by rw [JDl f]; intro q hq; cases hq)) fun vs hp k res hr => by
 unfold JeT at hr
 split at hr
 · exact ⟨f, 0, (Jpo f _ f _ _ _ ).trans hr⟩
 · cases hr
abbrev JsQ := Int -> List PV -> List PV -> List PV -> OR
def Ja3 (f : Nat) (rc : JsQ) (k0 : List PV -> List PV -> OR) (v0 : Int) (v1 v2 v3 : List PV) : OR := bif decide (v0 < 32) then bif decide (0 <= IntKind.i64.wrap (v0.tdiv 4)) && decide (IntKind.i64.wrap (v0.tdiv 4) < zi 8) && true then bif PV.isInt IntKind.u32 (Jq (PV.ar 170 v2) [(IntKind.i64.wrap (v0.tdiv 4)).toNat]) && true then bif decide (0 <= IntKind.i64.wrap (24 - IntKind.i64.wrap (8 * v0.tmod 4))) && true then bif decide (0 <= v0) && decide (v0 < zi 32) && true then rc (IntKind.i64.wrap (v0 + 1)) v1 v2 (v3.set v0.toNat (.sc (.int .u8 (IntKind.u8.wrap (JV IntKind.u32 (Jq (PV.ar 170 v2) [(IntKind.i64.wrap (v0.tdiv 4)).toNat]).int (IntKind.i64.wrap (24 - IntKind.i64.wrap (8 * v0.tmod 4)))))))) else none else none else none else none else k0 v1 v3
def Vm (f : Nat) (k0 : List PV -> List PV -> OR) : Nat -> JsQ
 | 0 => fun _ _ _ _ => none
 | n + 1 => Ja3 f (Vm f k0 n) k0
def Ja4 (k : Kont) := fun x0 x1 => k (Ex.exit 2) (Ji Jmn N52 [.ptr 608 [], .ptr 609 []] [(608, .box false 28 (PV.ar 28 x0)), (609, .box false 28 (PV.ar 28 x1))])
def Jmp (f : Nat) (k : Kont) (n : Nat) (v0 : Int) (v1 v2 v3 : List PV) : OR := Jx tau 0 JeS (fun s k => ev tau F52 0 0 Jpn (JsO ) s k) n (Ji JeS N52 [.ptr 608 [], .ptr 609 [], .ptr 610 [], .sc (.int .i64 v0)] [(608, .box false 28 (PV.ar 28 v1)), (609, .box false 170 (PV.ar 170 v2)), (610, .box false 28 (PV.ar 28 v3))]) (JG tau 0 Jmn k)
theorem Jxj (f : Nat) (k : Kont) (n : Nat) : Jmp f k (n + 1) = Ja3 f (Jmp f k n) (Ja4 k) := by kernel_rfl
theorem Jpp (f : Nat) (k : Kont) : ∀ n, Jmp f k n = Vm f (Ja4 k) n
 | 0 => rfl
 | n + 1 => (Jxj f k n).trans (congrArg (fun r => Ja3 f r (Ja4 k)) (Jpp f k n))
def JeU (f : Nat) : List PV -> List (Nat × Ent) -> Kont -> OR
 | [.ptr 608 [], .ptr 609 [], .ptr 610 [],
 PV.sc
  (Value.int IntKind.i64
   v0)], [(608, .box false 28 (PV.ar 28 v1)), (609, .box false 170 (PV.ar 170 v2)),
 (610,
  Ent.box false 28
   (PV.ar 28
    v3))], k => Vm f (Ja4 k) f v0 v1 v2 v3
 | _, _, _ => none
theorem JDm (f : Nat) : Jf Jpn JsO = [] := by kernel_rfl
theorem JH3 (f : Nat) : (Item.l Jpn JeS N52 (JeU f)).Ok tau Tryz.prog 0 := Jt Jn Jml Jo (x := JsO) (nm2 := Jmn) (Jl _ _ (by rw [JDm f]; intro q hq; cases hq)) fun vs hp k res hr => by
 unfold JeU at hr
 split at hr
 · exact ⟨f, 0, (Jpp f _ f _ _ _ _ ).trans hr⟩
 · cases hr
abbrev JsR := (JcG)
def g52 (f : Nat) (nl fl : Bool) (l : List PV) (k : KR) : OR := bif l.all (PV.isRo 5) && (decide ((JH l).length <= 140737488355328) && decide (l.length <= 140737488355328)) then bif Jk IntKind.u8 (JH l) && (decide ((JH l).length = (JH l).length) && decide ((JH l).length <= 140737488355000)) then Vl f (fun x0_0 x1_0 => Vm f (fun _ x1_1 => k (Res.mk (.ar 28 x1_1) [] [])) f (0) x0_0 x1_0 JsR) f (List.take (Q7 (JC (JH l))).length (pu IntKind.u8 (Q7 (JC (JH l))))) JsR ([.sc (.int .u32 1779033703), .sc (.int .u32 3144134277), .sc (.int .u32 1013904242), .sc (.int .u32 2773480762), .sc (.int .u32 1359893119), .sc (.int .u32 2600822924), .sc (.int .u32 528734635), .sc (.int .u32 1541459225)]) else none else none
theorem e52 (f : Nat) (nl fl : Bool) (l : List PV) (k : KR) : JI tau F52 Tryz.f52 (Tryz.f52.body.get!) (Jxh (JeT f) (JeU f)) [] 0 [.ro 26 nl fl l] [] k = g52 f nl fl l k := by kernel_rfl
theorem JOp (f : Nat) : Jf (Tryz.f52.body.get!) (Jxh (JeT f) (JeU f)) = [.l Jpm JeR N52 (JeT f), .l Jpn JeS N52 (JeU f)] := by kernel_rfl
theorem JOq (f : Nat) : ∀ q ∈ Jf (Tryz.f52.body.get!) (Jxh (JeT f) (JeU f)), q.Ok tau Tryz.prog 0 := by rw [JOp f]; exact JJ (JH2 f) (JJ (JH3 f) (fun _ h => nomatch h))
theorem JH4 : Tryz.prog.funcs[52]? = some Tryz.f52 := by kernel_rfl
theorem JH5 : Tryz.f52.body = some (Tryz.f52.body.get!) := by kernel_rfl
theorem JH6 : Enters Tryz.prog 52 := enters_of JH4 (by kernel_rfl) JH5
theorem JgQ : iv.length = 8 := rfl
theorem JAp (P : List Int) (m : Nat) (hP : P.length = 64 * m) (f : Nat) (k0 : List PV -> List PV -> OR) (a : List PV) : ∀ (d i n : Nat), i + d = m -> d < n ->
  Vl f k0 n (pu .u8 (P.drop (64 * i))) a (pu .u32 (X1 iv P i)) = k0 a (pu .u32 (X1 iv P m))
 | 0, i, n + 1, h, hn => by
   obtain rfl : i = m := by omega
   have hl : (P.drop (64 * i)).length = 0 := by rw [List.length_drop]; omega
   simp only [Vl, Ja1, JD, hl]
   exact Jd (by decide)
 | d + 1, i, n + 1, h, hn => by
   have hl : 64 <= (P.drop (64 * i)).length := by rw [List.length_drop]; omega
   have hf := XE iv P JgQ i
   simp only [Vl, Ja1, JD, Yk, JO, hf, WL]
   refine (Ja (by simp; omega)).trans ?_
   refine (Ja (by simp at hl ⊢; omega)).trans ?_
   refine (Ja (by simp at hl ⊢; omega)).trans ?_
   refine (Ja (by simp at hl ⊢; omega)).trans ?_
   rw [List.take_of_length_le (Nat.le_refl _), Jo6, List.drop_drop]
   have := JAp P m hP f k0 a d (i + 1) n (by omega) (by omega)
   rw [show 64 * i + 64 = 64 * (i + 1) from by omega]
   exact this
theorem JAq (s : List Int) (hs : s.length = 8) (f : Nat) (k0 : List PV -> List PV -> OR) (a : List PV) (t : List Int) (ht : t.length = 32) : ∀ (d i n : Nat), i + d = 32 -> d < n ->
  Vm f k0 n (i : Int) a (pu .u32 s) (pu .u8 (QS (ZY s) t i)) = k0 a (pu .u8 (JsF s))
 | 0, i, n + 1, h, hn => by
   obtain rfl : i = 32 := by omega
   simp only [Vm, Ja3]
   refine (Jd (by decide)).trans ?_
   have := W3 (ZY s) t
   rw [ht] at this; rw [this]; rfl
 | d + 1, i, n + 1, h, hn => by
   have e1 : ((i : Int)).tdiv 4 = ((i / 4 : Nat) : Int) := by rw [Int.tdiv_eq_ediv_of_nonneg (by omega)]; omega
   have e2 : ((i : Int)).tmod 4 = ((i % 4 : Nat) : Int) := by rw [Int.tmod_eq_emod_of_nonneg (by omega)]; omega
   have h1 := wI (i := i) (by omega)
   have h2 : IntKind.i64.wrap ((i / 4 : Nat) : Int) = ((i / 4 : Nat) : Int) := wrap_i64 (by omega) (by omega)
   have h3 : IntKind.i64.wrap (8 * ((i % 4 : Nat) : Int)) = 8 * ((i % 4 : Nat) : Int) := wrap_i64 (by omega) (by omega)
   have h4 : IntKind.i64.wrap (24 - 8 * ((i % 4 : Nat) : Int)) = 24 - 8 * ((i % 4 : Nat) : Int) := wrap_i64 (by omega) (by omega)
   have g1 := tI i
   have g2 : (((i / 4 : Nat) : Int)).toNat = i / 4 := by omega
   have c0 : decide ((i : Int) < 32) = true := by simp; omega
   have c1 : (decide (0 <= ((i / 4 : Nat) : Int)) && decide (((i / 4 : Nat) : Int) < zi 8) && true) = true := by simp; omega
   have c2 : (decide (0 <= 24 - 8 * ((i % 4 : Nat) : Int)) && true) = true := by simp; omega
   have c3 : (decide (0 <= (i : Int)) && decide ((i : Int) < zi 32) && true) = true := by simp; omega
   simp only [Vm, Ja3, e1, e2, h1, h2, h3, h4, g1, g2, Yl, c0, c1, c2, c3, Vh hs (i / 4) (by omega), PV.isInt, PV.int, decide_true, Bool.and_true, cond_true, Xx]
   have := JAq s hs f k0 a t ht d (i + 1) n (by omega) (by omega)
   rw [← QQ (ZY s) t i (by omega)] at this
   exact this
theorem JDn (nl fl : Bool) (l : List PV) (k : KR) (hl : l.all (PV.isRo 5) = true) (hn : l.length <= 140737488355328) (hi : Jk .u8 (JH l) = true) (hs : (JH l).length <= 140737488355000) :
  g52 ((Q7 (JC (JH l))).length / 64 + 100) nl fl l k = k ⟨.ar 28 (pu .u8 (JX (JC (JH l)))), [], []⟩ := by
 refine (Ja (by simp only [hl, Bool.true_and, Bool.and_eq_true, decide_eq_true_eq]; omega)).trans ?_
 refine (Ja (by simp only [hi, Bool.true_and, Bool.and_eq_true, decide_eq_true_eq, true_and]; exact hs)).trans ?_
 rw [Yk, List.take_of_length_le (Nat.le_refl _)]
 generalize hP : Q7 (JC (JH l)) = P
 have hlen : P.length = 64 * (P.length / 64) := by rw [← hP]; exact Jdq _
 have h0 : ∀ k0 a, Vl (P.length / 64 + 100) k0 (P.length / 64 + 100) (pu .u8 P) a (pu .u32 iv) = k0 a (pu .u32 (X1 iv P (P.length / 64))) := fun k0 a => JAp P (P.length / 64) hlen _ k0 a (P.length / 64) 0 _ (by omega) (by omega)
 have h1 : ∀ k0 a s, s.length = 8 -> Vm (P.length / 64 + 100) k0 (P.length / 64 + 100) 0 a (pu .u32 s) (pu .u8 (List.replicate 32 0)) = k0 a (pu .u8 (JsF s)) := by
  intro k0 a s hs
  have := JAq s hs (P.length / 64 + 100) k0 a (List.replicate 32 0) (by simp) 32 0 (P.length / 64 + 100) (by omega) (by omega)
  rw [Wk] at this
  exact this
 refine (h0 _ _).trans ((h1 _ _ _ (XE iv P JgQ _)).trans ?_)
 rw [JdR, Jpg, hP]
def Jmq : Jy
 | [.ro 26 nl fl l], [], k => bif (l.all (PV.isRo 5) && decide (l.length <= 140737488355328)) && (Jk .u8 (JH l) && decide ((JH l).length <= 140737488355000)) then k ⟨.ar 28 (pu .u8 (JX (JC (JH l)))), [], []⟩ else none
 | _, _, _ => none
def JDo : Sig := { own := [], run := Jmq }
theorem JAr : Jc tau Tryz.prog 52 JDo := JhG Jn Jml Jo JH4 JH5 (fun n => Jxh (JeT n) (JeU n)) [] 0 [] Jmq (fun n => JOq n) fun xs es k res hr => by
 unfold Jmq at hr
 split at hr
 · rename_i nl fl l
   obtain ⟨hc, hr⟩ := Ju hr
   simp only [Bool.and_eq_true, decide_eq_true_eq] at hc
   refine ⟨rfl, (Q7 (JC (JH l))).length / 64 + 100, 0, (e52 _ _ _ _ _).trans ?_⟩
   rw [JDn nl fl l k hc.1.1 hc.1.2 hc.2.1 hc.2.2]; exact hr
 · cases hr
theorem JH7 : Tryz.prog.funcs[143]? = some Tryz.f143 := by kernel_rfl
theorem JH8 : Tryz.f143.body = some (Tryz.f143.body.get!) := by kernel_rfl
theorem JH9 : Enters Tryz.prog 143 := enters_of JH7 (by kernel_rfl) JH8
theorem JOr : Tryz.prog.funcs[99]? = some Tryz.f99 := by kernel_rfl
theorem JOs : Tryz.f99.body = some (Tryz.f99.body.get!) := by kernel_rfl
theorem JIa : Enters Tryz.prog 99 := enters_of JOr (by kernel_rfl) JOs
def JAs : Fns := F0
theorem JsS : Jp tau Tryz.prog JAs := Js
def Jmr : An := (.seq .leaf (.seq (.seq .leaf (.cond (.seq .leaf .leaf) .leaf)) (.seq .leaf .leaf)))
def JAt (f : Nat) (s_z s_f : Bool) (s : List PV) (k : KR) : OR := bif s_z then k (Res.mk (.ro 5 true true []) [] []) else bif Je (0 + s.length) 1 && true then k (Res.mk (.ow 5 16 [] 0 (0 + s.length) none) [] [.vec false 5 false s]) else none
theorem JIb (f : Nat) (s_z s_f : Bool) (s : List PV) (k : KR) : JI tau JAs Tryz.f123 (Tryz.f123.body.get!) Jmr [] 0 [.ro 5 s_z s_f s] [] k = JAt f s_z s_f s k := by kernel_rfl
theorem JDp (f : Nat) : ∀ q ∈ Jf (Tryz.f123.body.get!) Jmr, q.Ok tau Tryz.prog 0 := Jv (by kernel_rfl)
theorem JsT : Tryz.prog.funcs[123]? = some Tryz.f123 := by kernel_rfl
theorem JsU : Tryz.f123.body = some (Tryz.f123.body.get!) := by kernel_rfl
theorem JsV : Enters Tryz.prog 123 := enters_of JsT (by kernel_rfl) JsU
def JhT : Jy
 | [.ro 5 s_z s_f s], [], k => JAt 0 s_z s_f s k
 | _, _, _ => none
def JsW : Sig := { own := [], run := JhT }
theorem JsX : Jc tau Tryz.prog 123 JsW := JN Jn JsS Jo JsT JsU Jmr [] 0 [] JhT (JDp 0) fun xs es k res hr => by
 unfold JhT at hr
 split at hr
 · exact ⟨rfl, 0, (JIb 0 _ _ _  _).trans hr⟩
 · cases hr
def F75 : Fns := Jr 123 JsW (F0)
theorem JDq : Jp tau Tryz.prog F75 := (Js).add JsX JsV
def JDr : Nm := [(0, .any), (1, .any), (5, .own), (6, .any)]
def JIc : An := (.seq .leaf (.seq .leaf (.seq .leaf (.seq .leaf (.seq (.seq .leaf (.seq .leaf (.cond .leaf .leaf))) (.seq .leaf .leaf))))))
def JDs : An := (.seq .leaf (.scope JDr JIc))
abbrev Jms (n : Int) := (IntKind.u8.wrap (JV IntKind.u64 (IntKind.u64.wrap n) (IntKind.i64.wrap (8 * IntKind.i64.wrap (0 + 1)))))
abbrev Jmt (n : Int) := (IntKind.u8.wrap (JV IntKind.u64 (IntKind.u64.wrap n) (IntKind.i64.wrap (8 * IntKind.i64.wrap (IntKind.i64.wrap (0 + 1) + 1)))))
abbrev Jmu (n : Int) := (IntKind.u8.wrap (JV IntKind.u64 (IntKind.u64.wrap n) (IntKind.i64.wrap (8 * IntKind.i64.wrap (IntKind.i64.wrap (IntKind.i64.wrap (0 + 1) + 1) + 1)))))
abbrev JeV := (IntKind.i64.wrap (IntKind.i64.wrap (IntKind.i64.wrap (0 + 1) + 1) + 1) + 1)
abbrev Jmv (n : Int) := (IntKind.u8.wrap (JV IntKind.u64 (IntKind.u64.wrap n) (IntKind.i64.wrap (8 * IntKind.i64.wrap JeV))))
abbrev Jmw (n : Int) := (IntKind.u8.wrap (JV IntKind.u64 (IntKind.u64.wrap n) (IntKind.i64.wrap (8 * IntKind.i64.wrap (IntKind.i64.wrap JeV + 1)))))
abbrev Jmx (n : Int) := (IntKind.u8.wrap (JV IntKind.u64 (IntKind.u64.wrap n) (IntKind.i64.wrap (8 * IntKind.i64.wrap (IntKind.i64.wrap (IntKind.i64.wrap JeV + 1) + 1)))))
abbrev Jmy (n : Int) := (IntKind.u8.wrap (JV IntKind.u64 (IntKind.u64.wrap n) (IntKind.i64.wrap (8 * IntKind.i64.wrap (IntKind.i64.wrap (IntKind.i64.wrap (IntKind.i64.wrap JeV + 1) + 1) + 1)))))
abbrev JhU (b : List PV) (n : Int) := (List.take (0 + b.length + 1 + 1 + 1 + 1 + 1 + 1 + 1 + 1) (List.take (0 + b.length + 1 + 1 + 1 + 1 + 1 + 1 + 1) (List.take (0 + b.length + 1 + 1 + 1 + 1 + 1 + 1) (List.take (0 + b.length + 1 + 1 + 1 + 1 + 1) (List.take (0 + b.length + 1 + 1 + 1 + 1) (List.take (0 + b.length + 1 + 1 + 1) (List.take (0 + b.length + 1 + 1) (List.take (0 + b.length + 1) (List.take (0 + b.length) b ++ [PV.sc (.int .u8 (IntKind.u8.wrap (JV IntKind.u64 (IntKind.u64.wrap n) (IntKind.i64.wrap (8 * 0)))))]) ++ [PV.sc (.int .u8 (Jms n))]) ++ [PV.sc (.int .u8 (Jmt n))]) ++ [PV.sc (.int .u8 (Jmu n))]) ++ [PV.sc (.int .u8 (Jmv n))]) ++ [PV.sc (.int .u8 (Jmw n))]) ++ [PV.sc (.int .u8 (Jmx n))]) ++ [PV.sc (.int .u8 (Jmy n))]))
def g75 (f : Nat) (b_z b_f : Bool) (b : List PV) (n : Int) (k : KR) : OR := bif b_z then k (Res.mk (.ro 5 false false [.sc (.int .u8 (IntKind.u8.wrap (JV IntKind.u64 (IntKind.u64.wrap n) (IntKind.i64.wrap (8 * 0))))), .sc (.int .u8 (Jms n)), .sc (.int .u8 (Jmt n)), .sc (.int .u8 (Jmu n)), .sc (.int .u8 (Jmv n)), .sc (.int .u8 (Jmw n)), .sc (.int .u8 (Jmx n)), .sc (.int .u8 (Jmy n))]) [] []) else bif Je (0 + b.length) 1 && true then bif Je (0 + b.length + 1) 1 && true then bif Je (0 + b.length + 1 + 1) 1 && true then bif Je (0 + b.length + 1 + 1 + 1) 1 && true then bif Je (0 + b.length + 1 + 1 + 1 + 1) 1 && true then bif Je (0 + b.length + 1 + 1 + 1 + 1 + 1) 1 && true then bif Je (0 + b.length + 1 + 1 + 1 + 1 + 1 + 1) 1 && true then bif Je (0 + b.length + 1 + 1 + 1 + 1 + 1 + 1 + 1) 1 && true then bif Je (0 + b.length + 1 + 1 + 1 + 1 + 1 + 1 + 1 + 1) 1 && true then bif Je (0 + (JhU b n).length) 1 && true then k (Res.mk (.ro 5 false false (List.take (0 + (JhU b n).length) (JhU b n))) [] []) else none else none else none else none else none else none else none else none else none else none
theorem e75 (f : Nat) (b_z b_f : Bool) (b : List PV) (n : Int) (k : KR) : JI tau F75 Tryz.f75 (Tryz.f75.body.get!) JDs [.ro] 12 [.ro 5 b_z b_f b, .sc (.int .i64 n)] [] k = g75 f b_z b_f b n k := by kernel_rfl
theorem JOt (f : Nat) : ∀ q ∈ Jf (Tryz.f75.body.get!) JDs, q.Ok tau Tryz.prog 0 := Jv (by kernel_rfl)
theorem JId : Tryz.prog.funcs[75]? = some Tryz.f75 := by kernel_rfl
theorem JIe : Tryz.f75.body = some (Tryz.f75.body.get!) := by kernel_rfl
theorem JDt : Enters Tryz.prog 75 := enters_of JId (by kernel_rfl) JIe
def JIf : Fns := F0
theorem Jxk : Jp tau Tryz.prog JIf := Js
def JsY : An := (.seq .leaf (.seq .leaf .leaf))
def JOu (f : Nat) (n : Int) (k : KR) : OR := k (Res.mk (.ow 5 16 [] 0 1 none) [] [.vec false 5 false [.sc (.int .u8 (IntKind.u8.wrap n))]])
theorem JOv (f : Nat) (n : Int) (k : KR) : JI tau JIf Tryz.f126 (Tryz.f126.body.get!) JsY [] 0 [.ro 5 true true [], .sc (.int .i64 n)] [] k = JOu f n k := by kernel_rfl
theorem JIg (f : Nat) : ∀ q ∈ Jf (Tryz.f126.body.get!) JsY, q.Ok tau Tryz.prog 0 := Jv (by kernel_rfl)
theorem JAu : Tryz.prog.funcs[126]? = some Tryz.f126 := by kernel_rfl
theorem JAv : Tryz.f126.body = some (Tryz.f126.body.get!) := by kernel_rfl
theorem JAw : Enters Tryz.prog 126 := enters_of JAu (by kernel_rfl) JAv
def JAx : Fns := F0
theorem JsZ : Jp tau Tryz.prog JAx := Js
def Jmz : An := (.seq .leaf (.seq .leaf .leaf))
def Js0 (f : Nat) (nl : Bool) (l : List PV) (m : Nat) (n : Int) (k : KR) : OR := bif Je (m + 1) 1 && true then k (Res.mk (.ow 5 16 [] 0 (m + 1) none) [.dead] [.vec false 5 (nl && false) (List.take m l ++ [.sc (.int .u8 (IntKind.u8.wrap n))])]) else none
theorem JIh (f : Nat) (nl : Bool) (l : List PV) (m : Nat) (n : Int) (k : KR) : JI tau JAx Tryz.f126 (Tryz.f126.body.get!) Jmz [] 0 [.ow 5 0 [] 0 m none, .sc (.int .i64 n)] [.vec false 5 nl l] k = Js0 f nl l m n k := by kernel_rfl
theorem JDu (f : Nat) : ∀ q ∈ Jf (Tryz.f126.body.get!) Jmz, q.Ok tau Tryz.prog 1 := Jv (by kernel_rfl)
theorem JDv : Tryz.prog.funcs[126]? = some Tryz.f126 := by kernel_rfl
theorem JDw : Tryz.f126.body = some (Tryz.f126.body.get!) := by kernel_rfl
def F76 : Fns := F0
theorem JDx : Jp tau Tryz.prog F76 := Js
def JDy : Nm := [(0, .own), (1, .any), (5, .any)]
def JIi : An := (.seq (.seq .leaf (.cond .leaf .leaf)) (.seq (.block none .leaf) .leaf))
def JDz : An := (.seq .leaf (.seq (.seq .leaf (.block none (.loop JDy JIi))) (.seq .leaf .leaf)))
abbrev JhV := (IntKind.i64.wrap (IntKind.i64.wrap (IntKind.i64.wrap (0 + 1) + 1) + 1) + 1)
def g76 (f : Nat) (n : Int) (k : KR) : OR := k (Res.mk (.ow 5 16 [] 0 8 none) [] [.vec false 5 false [.sc (.int .u8 (IntKind.u8.wrap (JV IntKind.u64 (IntKind.u64.wrap n) (IntKind.u64.wrap (8 * IntKind.u64.wrap 0))))), .sc (.int .u8 (IntKind.u8.wrap (JV IntKind.u64 (IntKind.u64.wrap n) (IntKind.u64.wrap (8 * IntKind.u64.wrap (IntKind.i64.wrap (0 + 1))))))), .sc (.int .u8 (IntKind.u8.wrap (JV IntKind.u64 (IntKind.u64.wrap n) (IntKind.u64.wrap (8 * IntKind.u64.wrap (IntKind.i64.wrap (IntKind.i64.wrap (0 + 1) + 1))))))), .sc (.int .u8 (IntKind.u8.wrap (JV IntKind.u64 (IntKind.u64.wrap n) (IntKind.u64.wrap (8 * IntKind.u64.wrap (IntKind.i64.wrap (IntKind.i64.wrap (IntKind.i64.wrap (0 + 1) + 1) + 1))))))), .sc (.int .u8 (IntKind.u8.wrap (JV IntKind.u64 (IntKind.u64.wrap n) (IntKind.u64.wrap (8 * IntKind.u64.wrap (IntKind.i64.wrap JhV)))))), .sc (.int .u8 (IntKind.u8.wrap (JV IntKind.u64 (IntKind.u64.wrap n) (IntKind.u64.wrap (8 * IntKind.u64.wrap (IntKind.i64.wrap (IntKind.i64.wrap JhV + 1))))))), .sc (.int .u8 (IntKind.u8.wrap (JV IntKind.u64 (IntKind.u64.wrap n) (IntKind.u64.wrap (8 * IntKind.u64.wrap (IntKind.i64.wrap (IntKind.i64.wrap (IntKind.i64.wrap JhV + 1) + 1))))))), .sc (.int .u8 (IntKind.u8.wrap (JV IntKind.u64 (IntKind.u64.wrap n) (IntKind.u64.wrap (8 * IntKind.u64.wrap (IntKind.i64.wrap (IntKind.i64.wrap (IntKind.i64.wrap (IntKind.i64.wrap JhV + 1) + 1) + 1)))))))]])
theorem e76 (f : Nat) (n : Int) (k : KR) : JI tau F76 Tryz.f76 (Tryz.f76.body.get!) JDz [] 12 [.ro 5 true true [], .sc (.int .i64 n)] [] k = g76 f n k := by kernel_rfl
theorem JOw (f : Nat) : ∀ q ∈ Jf (Tryz.f76.body.get!) JDz, q.Ok tau Tryz.prog 0 := Jv (by kernel_rfl)
theorem JIj : Tryz.prog.funcs[76]? = some Tryz.f76 := by kernel_rfl
theorem JIk : Tryz.f76.body = some (Tryz.f76.body.get!) := by kernel_rfl
theorem Jxl : Enters Tryz.prog 76 := enters_of JIj (by kernel_rfl) JIk
def JIl : Fns := F0
theorem Jxm : Jp tau Tryz.prog JIl := Js
def Jxn : Nm := [(0, .own), (1, .any), (5, .any)]
def JDA : An := (.seq (.seq .leaf (.cond .leaf .leaf)) (.seq (.block none .leaf) .leaf))
def Js1 : An := (.seq .leaf (.seq (.seq .leaf (.block none (.loop Jxn JDA))) (.seq .leaf .leaf)))
abbrev Ja5 := (IntKind.i64.wrap (IntKind.i64.wrap (IntKind.i64.wrap (0 + 1) + 1) + 1) + 1)
def JDB (f : Nat) (nl : Bool) (l : List PV) (m : Nat) (n : Int) (k : KR) : OR := bif Je (m + 1) 1 && true then bif Je (m + 1 + 1) 1 && true then bif Je (m + 1 + 1 + 1) 1 && true then bif Je (m + 1 + 1 + 1 + 1) 1 && true then bif Je (m + 1 + 1 + 1 + 1 + 1) 1 && true then bif Je (m + 1 + 1 + 1 + 1 + 1 + 1) 1 && true then bif Je (m + 1 + 1 + 1 + 1 + 1 + 1 + 1) 1 && true then bif Je (m + 1 + 1 + 1 + 1 + 1 + 1 + 1 + 1) 1 && true then k (Res.mk (.ow 5 16 [] 0 (m + 1 + 1 + 1 + 1 + 1 + 1 + 1 + 1) none) [.dead] [.vec false 5 (nl && false && false && false && false && false && false && false && false) (List.take (m + 1 + 1 + 1 + 1 + 1 + 1 + 1) (List.take (m + 1 + 1 + 1 + 1 + 1 + 1) (List.take (m + 1 + 1 + 1 + 1 + 1) (List.take (m + 1 + 1 + 1 + 1) (List.take (m + 1 + 1 + 1) (List.take (m + 1 + 1) (List.take (m + 1) (List.take m l ++ [.sc (.int .u8 (IntKind.u8.wrap (JV IntKind.u64 (IntKind.u64.wrap n) (IntKind.u64.wrap (8 * IntKind.u64.wrap 0)))))]) ++ [.sc (.int .u8 (IntKind.u8.wrap (JV IntKind.u64 (IntKind.u64.wrap n) (IntKind.u64.wrap (8 * IntKind.u64.wrap (IntKind.i64.wrap (0 + 1)))))))]) ++ [.sc (.int .u8 (IntKind.u8.wrap (JV IntKind.u64 (IntKind.u64.wrap n) (IntKind.u64.wrap (8 * IntKind.u64.wrap (IntKind.i64.wrap (IntKind.i64.wrap (0 + 1) + 1)))))))]) ++ [.sc (.int .u8 (IntKind.u8.wrap (JV IntKind.u64 (IntKind.u64.wrap n) (IntKind.u64.wrap (8 * IntKind.u64.wrap (IntKind.i64.wrap (IntKind.i64.wrap (IntKind.i64.wrap (0 + 1) + 1) + 1)))))))]) ++ [.sc (.int .u8 (IntKind.u8.wrap (JV IntKind.u64 (IntKind.u64.wrap n) (IntKind.u64.wrap (8 * IntKind.u64.wrap (IntKind.i64.wrap Ja5))))))]) ++ [.sc (.int .u8 (IntKind.u8.wrap (JV IntKind.u64 (IntKind.u64.wrap n) (IntKind.u64.wrap (8 * IntKind.u64.wrap (IntKind.i64.wrap (IntKind.i64.wrap Ja5 + 1)))))))]) ++ [.sc (.int .u8 (IntKind.u8.wrap (JV IntKind.u64 (IntKind.u64.wrap n) (IntKind.u64.wrap (8 * IntKind.u64.wrap (IntKind.i64.wrap (IntKind.i64.wrap (IntKind.i64.wrap Ja5 + 1) + 1)))))))]) ++ [.sc (.int .u8 (IntKind.u8.wrap (JV IntKind.u64 (IntKind.u64.wrap n) (IntKind.u64.wrap (8 * IntKind.u64.wrap (IntKind.i64.wrap (IntKind.i64.wrap (IntKind.i64.wrap (IntKind.i64.wrap Ja5 + 1) + 1) + 1)))))))])]) else none else none else none else none else none else none else none else none
theorem JOx (f : Nat) (nl : Bool) (l : List PV) (m : Nat) (n : Int) (k : KR) : JI tau JIl Tryz.f76 (Tryz.f76.body.get!) Js1 [] 12 [.ow 5 0 [] 0 m none, .sc (.int .i64 n)] [.vec false 5 nl l] k = JDB f nl l m n k := by kernel_rfl
theorem JIm (f : Nat) : ∀ q ∈ Jf (Tryz.f76.body.get!) Js1, q.Ok tau Tryz.prog 1 := Jv (by kernel_rfl)
theorem JIn : Tryz.prog.funcs[76]? = some Tryz.f76 := by kernel_rfl
theorem JIo : Tryz.f76.body = some (Tryz.f76.body.get!) := by kernel_rfl
def JIp : Fns := F0
theorem Jxo : Jp tau Tryz.prog JIp := Js
def Js2 : An := (.seq .leaf (.seq (.seq .leaf (.cond .leaf .leaf)) (.seq .leaf .leaf)))
def JDC (f : Nat) (nl : Bool) (l : List PV) (m : Nat) (s : ByteArray) (k : KR) : OR := bif decide (zi s.size > 65535) then bif decide (65535 <= s.size) && true then bif Je (m + 2) 1 && true then bif Je (m + 2 + (Jj (s.extract 0 65535)).length) 1 && true then k (Res.mk (.ow 5 16 [] 0 (m + 2 + (Jj (s.extract 0 65535)).length) none) [.dead] [.vec false 5 (nl && false && (Jj (s.extract 0 65535)).isEmpty) (List.take (m + 2) (List.take m l ++ [.sc (.int .u8 (IntKind.u8.wrap (zi (s.extract 0 65535).size))), .sc (.int .u8 (IntKind.u8.wrap (JV IntKind.i64 (zi (s.extract 0 65535).size) 8)))]) ++ Jj (s.extract 0 65535))]) else none else none else none else bif Je (m + 2) 1 && true then bif Je (m + 2 + (Jj s).length) 1 && true then k (Res.mk (.ow 5 16 [] 0 (m + 2 + (Jj s).length) none) [.dead] [.vec false 5 (nl && false && (Jj s).isEmpty) (List.take (m + 2) (List.take m l ++ [.sc (.int .u8 (IntKind.u8.wrap (zi s.size))), .sc (.int .u8 (IntKind.u8.wrap (JV IntKind.i64 (zi s.size) 8)))]) ++ Jj s)]) else none else none
theorem JOy (f : Nat) (nl : Bool) (l : List PV) (m : Nat) (s : ByteArray) (k : KR) : JI tau JIp Tryz.f80 (Tryz.f80.body.get!) Js2 [] 0 [.ow 5 0 [] 0 m none, .sc (.string s)] [.vec false 5 nl l] k = JDC f nl l m s k := by kernel_rfl
theorem JIq (f : Nat) : ∀ q ∈ Jf (Tryz.f80.body.get!) Js2, q.Ok tau Tryz.prog 1 := Jv (by kernel_rfl)
theorem JAy : Tryz.prog.funcs[80]? = some Tryz.f80 := by kernel_rfl
theorem JAz : Tryz.f80.body = some (Tryz.f80.body.get!) := by kernel_rfl
theorem JIr : Enters Tryz.prog 80 := enters_of JAy (by kernel_rfl) JAz
def JIs : Fns := F0
theorem Jxp : Jp tau Tryz.prog JIs := Js
def Js3 : An := (.seq .leaf (.seq (.seq .leaf (.cond (.seq .leaf .leaf) .leaf)) (.seq .leaf .leaf)))
def Jxq (f : Nat) (s_z s_f : Bool) (s : List PV) (k : KR) : OR := bif s_z then k (Res.mk (.ro 5 true true []) [] []) else bif Je (0 + s.length) 1 && true then k (Res.mk (.ro 5 false false (List.take (0 + s.length) s)) [] []) else none
theorem JOz (f : Nat) (s_z s_f : Bool) (s : List PV) (k : KR) : JI tau JIs Tryz.f123 (Tryz.f123.body.get!) Js3 [.ro] 0 [.ro 5 s_z s_f s] [] k = Jxq f s_z s_f s k := by kernel_rfl
theorem JIt (f : Nat) : ∀ q ∈ Jf (Tryz.f123.body.get!) Js3, q.Ok tau Tryz.prog 0 := Jv (by kernel_rfl)
theorem JAA : Tryz.prog.funcs[123]? = some Tryz.f123 := by kernel_rfl
theorem JAB : Tryz.f123.body = some (Tryz.f123.body.get!) := by kernel_rfl
theorem JIu : Enters Tryz.prog 123 := enters_of JAA (by kernel_rfl) JAB
def JmA : Jy
 | [.ro 5 s_z s_f s], [], k => Jxq 0 s_z s_f s k
 | _, _, _ => none
def JOA : Sig := { own := [], run := JmA }
theorem JIv : Jc tau Tryz.prog 123 JOA := JN Jn Jxp Jo JAA JAB Js3 [.ro] 0 [] JmA (JIt 0) fun xs es k res hr => by
 unfold JmA at hr
 split at hr
 · exact ⟨rfl, 0, (JOz 0 _ _ _  _).trans hr⟩
 · cases hr
def slB (z : Bool) (l : List PV) : Bool := (!z || l.isEmpty) && Nat.ble l.length 1000000000
theorem XG {z : Bool} {l : List PV} : slB z l = true ↔ (z = true -> l = []) /\ l.length <= 1000000000 := by
 simp only [slB, Bool.and_eq_true, Nat.ble_eq, Bool.or_eq_true, Bool.not_eq_true', List.isEmpty_iff]
 cases z <;> simp
def JhW : Jy
 | [.ro 5 z f l], [], k => bif slB z l then k ⟨.ro 5 z z l, [], []⟩ else none
 | _, _, _ => none
def JAC : Sig := { own := [], run := JhW }
theorem JDD : Jc tau Tryz.prog 123 JAC := JIv.of fun xs es k res hr => by
 change JhW xs es k = some res at hr
 unfold JhW at hr
 split at hr
 · rename_i z f l
   obtain ⟨hc, hr⟩ := Ju hr
   obtain ⟨h1, h2⟩ := XG.1 hc
   show Jxq 0 z f l k = some res
   unfold Jxq
   cases z with
   | true => obtain rfl := h1 rfl; exact hr
   | false =>
    rw [cond_false, Ja (by simp [Je]; omega)]
    simp only [Nat.zero_add, List.nil_append, List.take_length]
    exact hr
 · cases hr
structure RS where
 b : List PV
 e : Int
def byB (l : List PV) : Bool := l.all fun p => p.isInt .u8 && (decide (0 <= p.int) && decide (p.int < 256))
def W4 : List Int -> Int
 | [] => 0
 | x :: r => x + 256 * W4 r
def XH (n : Nat) (s : RS) : Bool := s.e == 0 && Nat.ble n s.b.length
def Qi (n : Nat) (s : RS) : RS := bif XH n s then ⟨s.b.drop n, 0⟩ else ⟨s.b, bif s.e == 0 then 8 else s.e⟩
def J8 (n : Nat) (s : RS) : List PV := bif XH n s then s.b.take n else []
def WU (n : Nat) (s : RS) : Int := IntKind.i64.wrap (W4 (JC (J8 n s)))
def okS : Nat -> RS -> Bool := hid XH
def Gt : Nat -> RS -> List PV := hid J8
theorem JmB (n : Nat) (s : RS) : okS n s = XH n s := by rw [okS, hid_eq]
theorem Zk (n : Nat) (s : RS) : Gt n s = J8 n s := by rw [Gt, hid_eq]
def Jb : Nat -> RS -> RS := hid Qi
def Jz : Nat -> RS -> Int := hid WU
theorem X2 (n : Nat) (s : RS) : Jb n s = Qi n s := by rw [Jb, hid_eq]
theorem Zl (n : Nat) (s : RS) : Jz n s = WU n s := by rw [Jz, hid_eq]
def Jku (s : RS) : RS := Qi (WU 2 s).toNat (Qi 2 s)
def Jdt (s : RS) : ByteArray := ⟨(JW (J8 (WU 2 s).toNat (Qi 2 s))).toArray⟩
def Qe : RS -> RS := hid Jku
def JT : RS -> ByteArray := hid Jdt
theorem JdS (s : RS) : Qe s = Jku s := by rw [Qe, hid_eq]
theorem JhX (s : RS) : JT s = Jdt s := by rw [JT, hid_eq]
theorem Wg {l : List PV} : byB l = true ↔ Jk .u8 l = true /\ ∀ x ∈ JC l, 0 <= x /\ x < 256 := by
 induction l with
 | nil => simp [byB, Jk, JC]
 | cons p ps ih =>
  have e1 : byB (p :: ps) = ((p.isInt .u8 && (decide (0 <= p.int) && decide (p.int < 256))) && byB ps) := rfl
  have e2 : JC (p :: ps) = p.int :: JC ps := rfl
  have e3 : Jk .u8 (p :: ps) = (p.isInt .u8 && Jk .u8 ps) := rfl
  rw [e1, e2, e3]
  simp only [Bool.and_eq_true, decide_eq_true_eq, List.mem_cons, forall_eq_or_imp, ih]
  constructor
  · rintro ⟨⟨h1, h2⟩, h3, h4⟩
    exact ⟨⟨h1, h3⟩, h2, h4⟩
  · rintro ⟨⟨h1, h3⟩, h2, h4⟩
    exact ⟨⟨h1, h2⟩, h3, h4⟩
theorem Js4 {l : List PV} (h : byB l = true) (n : Nat) : byB (l.take n) = true := List.all_eq_true.2 fun p hp => List.all_eq_true.1 h p (List.mem_of_mem_take hp)
theorem Jkv {l : List PV} (h : byB l = true) (n : Nat) : byB (l.drop n) = true := List.all_eq_true.2 fun p hp => List.all_eq_true.1 h p (List.mem_of_mem_drop hp)
theorem JmC {l : List Int} : byB (pu .u8 l) = true ↔ ∀ x ∈ l, 0 <= x /\ x < 256 := by rw [Wg]; simp
theorem YW {s : RS} (h : byB s.b = true) (n : Nat) : byB (Qi n s).b = true := by
 unfold Qi; cases XH n s
 · exact h
 · exact Jkv h n
theorem Zm {s : RS} (h : byB s.b = true) (n : Nat) : byB (J8 n s) = true := by
 unfold J8; cases XH n s
 · rfl
 · exact Js4 h n
theorem W5 (n : Nat) (s : RS) : (J8 n s).length <= n := by
 unfold J8; cases XH n s
 · exact Nat.zero_le _
 · simp; omega
theorem Yp : ∀ (l : List Int), (∀ x ∈ l, 0 <= x /\ x < 256) -> 0 <= W4 l /\ W4 l < 256 ^ l.length
 | [], h => by simp [W4]
 | x :: r, h => by
  have h1 := h x List.mem_cons_self
  have h2 := Yp r fun y hy => h y (List.mem_cons_of_mem _ hy)
  simp only [W4, List.length_cons, Int.pow_succ]
  generalize (256 : Int) ^ r.length = B at *
  omega
theorem X3 {s : RS} (h : byB s.b = true) {n : Nat} (hn : n <= 2) : 0 <= WU n s /\ WU n s < 65536 := by
 have h1 := Yp (JC (J8 n s)) (Wg.1 (Zm h n)).2
 have h2 : (JC (J8 n s)).length <= 2 := by rw [QW]; exact Nat.le_trans (W5 n s) hn
 have h3 : (256 : Int) ^ (JC (J8 n s)).length <= 65536 := by
  generalize (JC (J8 n s)).length = m at *
  match m, h2 with
  | 0, _ => decide
  | 1, _ => decide
  | 2, _ => decide
 unfold WU
 rw [wrap_i64 (by omega) (by omega)]; omega
structure RT where
 B : List PV
 P : Int
 e : Int
def RT.view (t : RT) : RS := ⟨t.B.drop t.P.toNat, t.e⟩
def okT (t : RT) : Bool := decide (0 <= t.P) && (decide (t.P <= (t.B.length : Int)) && (byB t.B && Nat.ble t.B.length 1000000000))
def QZ (n : Nat) (t : RT) : RT := bif XH n t.view then ⟨t.B, ((t.P.toNat + n : Nat) : Int), 0⟩ else ⟨t.B, t.P, bif t.e == 0 then 8 else t.e⟩
def Jh : Nat -> RT -> RT := hid QZ
def Qk : Nat -> RT -> Int := hid fun n t => WU n t.view
def Ja6 (t : RT) : RT := QZ (WU 2 t.view).toNat (QZ 2 t)
def Q0 : RT -> RT := hid Ja6
def X4 : RT -> ByteArray := hid fun t => Jdt t.view
theorem Xt (n : Nat) (t : RT) : Jh n t = QZ n t := by rw [Jh, hid_eq]
theorem JdT (n : Nat) (t : RT) : Qk n t = WU n t.view := by rw [Qk, hid_eq]
theorem JhY (t : RT) : Q0 t = Ja6 t := by rw [Q0, hid_eq]
theorem Jkw (t : RT) : X4 t = Jdt t.view := by rw [X4, hid_eq]
theorem YX (n : Nat) (t : RT) : (QZ n t).view = Qi n t.view := by
 unfold QZ Qi
 cases XH n t.view with
 | true => simp only [cond_true, RT.view, Int.toNat_natCast, List.drop_drop]
 | false => simp only [cond_false, RT.view]
theorem Js5 (t : RT) : (Ja6 t).view = Jku t.view := by simp only [Ja6, Jku, YX]
@[simp] theorem WM (n : Nat) (t : RT) : Qk n t = Jz n t.view := by rw [JdT, Zl]
@[simp] theorem Ql (n : Nat) (t : RT) : (Jh n t).view = Jb n t.view := by rw [Xt, X2, YX]
@[simp] theorem JgR (t : RT) : (Q0 t).view = Qe t.view := by rw [JhY, JdS, Js5]
@[simp] theorem JgS (t : RT) : X4 t = JT t.view := by rw [Jkw, JhX]
theorem Vn {t : RT} (h : okT t = true) (n : Nat) : okT (QZ n t) = true := by
 have h' := h
 simp only [okT, Bool.and_eq_true, decide_eq_true_eq, Nat.ble_eq] at h ⊢
 unfold QZ
 cases hk : XH n t.view with
 | true =>
  simp only [cond_true]
  have hn : n <= (t.B.drop t.P.toNat).length := by
   simp only [XH, RT.view, Bool.and_eq_true, Nat.ble_eq] at hk; exact hk.2
  rw [List.length_drop] at hn
  refine ⟨by omega, by omega, h.2.2⟩
 | false => exact h
theorem Jxr {t : RT} (h : okT t = true) : okT (Ja6 t) = true := Vn (Vn h _) _
@[simp] theorem QE {t : RT} (h : okT t = true) (n : Nat) : okT (Jh n t) = true := by rw [Xt]; exact Vn h n
@[simp] theorem Jkx {t : RT} (h : okT t = true) : okT (Q0 t) = true := by rw [JhY]; exact Jxr h
theorem Js6 {s : RS} (h : s.e ≠ 0) (n : Nat) : XH n s = false := by
 unfold XH
 have : (s.e == 0) = false := by simpa using h
 rw [this]; rfl
theorem Ja7 {s : RS} (h : s.e ≠ 0) (n : Nat) : Qi n s = s := by
 unfold Qi
 have : (s.e == 0) = false := by simpa using h
 rw [Js6 h, cond_false, this, cond_false]
theorem JrD {t : RT} (h : t.e ≠ 0) (n : Nat) : QZ n t = t := by
 unfold QZ
 have : (t.e == 0) = false := by simpa using h
 rw [Js6 (s := t.view) h, cond_false, this, cond_false]
def ib (n i : Int) : Int := IntKind.u8.wrap (JV .u64 (IntKind.u64.wrap n) (8 * i))
def Js7 (n : Int) : List Int := [ib n 0, ib n 1, ib n 2, ib n 3, ib n 4, ib n 5, ib n 6, ib n 7]
def QF : Int -> List Int := hid Js7
theorem Yq (n : Int) : QF n = Js7 n := by rw [QF, hid_eq]
@[simp] theorem Vo (n : Int) : (QF n).length = 8 := by rw [Yq]; rfl
def Jxs (s : ByteArray) : List Int := s.data.toList.map fun b => (b.toNat : Int)
def bsI : ByteArray -> List Int := hid Jxs
theorem JmD (s : ByteArray) : bsI s = Jxs s := by rw [bsI, hid_eq]
theorem X5 (s : ByteArray) : Jj s = pu .u8 (bsI s) := by rw [JmD]; simp [Jj, pu, Jxs]
@[simp] theorem JmE (s : ByteArray) : (bsI s).length = s.size := by rw [JmD]; simp [Jxs]
theorem JDE (s : ByteArray) : ∀ x ∈ bsI s, 0 <= x /\ x < 256 := by
 intro x hx
 rw [JmD] at hx
 obtain ⟨b, _, rfl⟩ := List.mem_map.1 hx
 have := b.toNat_lt
 omega
def GM (s : ByteArray) : List Int := [IntKind.u8.wrap (zi s.size), IntKind.u8.wrap (JV .i64 (zi s.size) 8)] ++ bsI s
def WV : ByteArray -> List Int := hid GM
theorem YY (s : ByteArray) : WV s = GM s := by rw [WV, hid_eq]
@[simp] theorem Ja8 (s : ByteArray) : (WV s).length = s.size + 2 := by rw [YY]; simp [GM]
theorem Ja9 (x : Int) : 0 <= IntKind.u8.wrap x /\ IntKind.u8.wrap x < 256 := by rw [JlX]; omega
theorem V2 (n : Int) : ∀ x ∈ QF n, 0 <= x /\ x < 256 := by
 rw [Yq]; intro x hx
 simp only [Js7, List.mem_cons, List.not_mem_nil, or_false] at hx
 rcases hx with h | h | h | h | h | h | h | h <;> (rw [h]; exact Ja9 _)
theorem Js8 (s : ByteArray) : ∀ x ∈ WV s, 0 <= x /\ x < 256 := by
 rw [YY]; intro x hx
 rcases List.mem_append.1 hx with hx | hx
 · simp only [List.mem_cons, List.not_mem_nil, or_false] at hx
   rcases hx with h | h <;> (rw [h]; exact Ja9 _)
 · exact JDE s x hx
theorem Jxt (f : Bool) (b : List PV) (n : Int) (k : KR) : g75 0 true f b n k = k ⟨.ro 5 false false (pu .u8 (QF n)), [], []⟩ := by
 rw [Yq]; kernel_rfl
theorem JIw (f : Bool) (b : List PV) (hb : b.length <= 1000000000) (n : Int) (k : KR) : g75 0 false f b n k = k ⟨.ro 5 false false (b ++ pu .u8 (QF n)), [], []⟩ := by
 rw [Yq]
 unfold g75 JhU Jmy Jmx Jmw Jmv JeV Jmu Jmt Jms
 refine (Jd rfl).trans ?_
 repeat (refine (Ja (by simp [Je]; omega)).trans ?_)
 repeat rw [List.take_of_length_le (by simp <;> omega)]
 simp only [List.nil_append, List.append_assoc]
 rfl
def JhZ : Jy
 | [.ro 5 z f b, .sc (.int .i64 n)], [], k => bif slB z b then k ⟨.ro 5 false false (b ++ pu .u8 (QF n)), [], []⟩ else none
 | _, _, _ => none
def JIx : Sig := { own := [], run := JhZ }
theorem JAD : Jc tau Tryz.prog 75 JIx := Jc.mk' fun xs es k res hl hr => by
 change JhZ xs es k = some res at hr
 unfold JhZ at hr
 split at hr
 · rename_i z f b n
   obtain ⟨hc, hr2⟩ := Ju hr
   clear hr
   obtain ⟨h1, h2⟩ := XG.1 hc
   have hg : g75 0 z f b n k = some res := by
    cases z with
    | true => obtain rfl := h1 rfl; rw [Jxt]; exact hr2
    | false => rw [JIw f b h2]; exact hr2
   exact J1 Jn JDq Jo JId JIe JDs [.ro] 0 12 (JOt 0) hl rfl ((e75 0 z f b n k).trans hg)
 · cases hr
theorem Jky (s : ByteArray) : s.extract 0 s.size = s := by
 apply ByteArray.ext
 simp [ByteArray.data_extract]
def Jba : Jy
 | [.ro 5 true true [], .sc (.int .i64 n)], [], k => k ⟨.ow 5 16 [] 0 1 none, [], [.vec false 5 false (pu .u8 [IntKind.u8.wrap n])]⟩
 | [.ow 5 0 [] 0 m none, .sc (.int .i64 n)], [.vec false 5 nl l], k => bif Nat.beq m l.length && Nat.ble l.length 1000000000 then k ⟨.ow 5 16 [] 0 (m + 1) none, [.dead], [.vec false 5 false (l ++ pu .u8 [IntKind.u8.wrap n])]⟩ else none
 | _, _, _ => none
def JIy : Sig := { own := [true], run := Jba }
theorem JDF : Jc tau Tryz.prog 126 JIy := Jc.mk' fun xs es k res hl hr => by
 change Jba xs es k = some res at hr
 unfold Jba at hr
 split at hr
 · rename_i n
   exact J1 Jn Jxk Jo JAu JAv JsY [] 0 0 (JIg 0) hl rfl ((JOv 0 n k).trans hr)
 · rename_i m n nl l
   obtain ⟨hc, hr⟩ := Ju hr
   rw [Bool.and_eq_true, Nat.beq_eq, Nat.ble_eq] at hc
   obtain ⟨rfl, hc⟩ := hc
   have hg : Js0 0 nl l l.length n k = some res := by
    unfold Js0
    rw [Ja (by simp [Je]; omega), List.take_length, Bool.and_false]
    exact hr
   exact J1 Jn JsZ Jo JDv JDw Jmz [] 1 0 (JDu 0) hl rfl ((JIh 0 nl l l.length n k).trans hg)
 · cases hr
def JeW : Jy
 | [.ro 5 true true [], .sc (.int .i64 n)], [], k => k ⟨.ow 5 16 [] 0 8 none, [], [.vec false 5 false (pu .u8 (QF n))]⟩
 | [.ow 5 0 [] 0 m none, .sc (.int .i64 n)], [.vec false 5 nl l], k => bif Nat.beq m l.length && Nat.ble l.length 1000000000 then k ⟨.ow 5 16 [] 0 (m + 8) none, [.dead], [.vec false 5 false (l ++ pu .u8 (QF n))]⟩ else none
 | _, _, _ => none
def JOB : Sig := { own := [true], run := JeW }
theorem Jxu (n : Int) (k : KR) : g76 0 n k = k ⟨.ow 5 16 [] 0 8 none, [], [.vec false 5 false (pu .u8 (QF n))]⟩ := by
 rw [Yq]; kernel_rfl
theorem Jxv (nl : Bool) (l : List PV) (hl : l.length <= 1000000000) (n : Int) (k : KR) : JDB 0 nl l l.length n k = k ⟨.ow 5 16 [] 0 (l.length + 8) none, [.dead], [.vec false 5 false (l ++ pu .u8 (QF n))]⟩ := by
 rw [Yq]
 unfold JDB Ja5
 repeat (refine (Ja (by simp [Je]; omega)).trans ?_)
 repeat rw [List.take_of_length_le (by simp <;> omega)]
 simp only [Bool.and_false, List.append_assoc]
 rfl
theorem JAE : Jc tau Tryz.prog 76 JOB := Jc.mk' fun xs es k res hl hr => by
 change JeW xs es k = some res at hr
 unfold JeW at hr
 split at hr
 · rename_i n
   exact J1 Jn JDx Jo JIj JIk JDz [] 0 12 (JOw 0) hl rfl ((e76 0 n k).trans ((Jxu n k).trans hr))
 · rename_i m n nl l
   obtain ⟨hc, hr⟩ := Ju hr
   rw [Bool.and_eq_true, Nat.beq_eq, Nat.ble_eq] at hc
   obtain ⟨rfl, hc⟩ := hc
   exact J1 Jn Jxm Jo JIn JIo Js1 [] 1 12 (JIm 0) hl rfl ((JOx 0 nl l l.length n k).trans ((Jxv nl l hc n k).trans hr))
 · cases hr
def JeX : Jy
 | [.ow 5 0 [] 0 m none, .sc (.string s)], [.vec false 5 nl l], k => bif Nat.beq m l.length && Nat.ble l.length 1000000000 && Nat.ble s.size 65535 then k ⟨.ow 5 16 [] 0 (m + (s.size + 2)) none, [.dead], [.vec false 5 false (l ++ pu .u8 (WV s))]⟩ else none
 | _, _, _ => none
def JOC : Sig := { own := [true], run := JeX }
theorem JIz : Jc tau Tryz.prog 80 JOC := Jc.mk' fun xs es k res hl hr => by
 change JeX xs es k = some res at hr
 unfold JeX at hr
 split at hr
 · rename_i m s nl l
   obtain ⟨hc, hr⟩ := Ju hr
   rw [Bool.and_eq_true, Bool.and_eq_true, Nat.beq_eq, Nat.ble_eq, Nat.ble_eq] at hc
   obtain ⟨⟨rfl, hc⟩, hs⟩ := hc
   have hg : JDC 0 nl l l.length s k = some res := by
    unfold JDC
    have hob : (Jj s).length = s.size := by rw [X5]; simp
    rw [Jd (by simp only [zi, decide_eq_false_iff_not]; omega), Ja (by simp [Je]; omega), Ja (by simp [Je, hob]; omega), List.take_length, List.take_of_length_le (by simp), hob, Bool.and_false, Bool.false_and]
    rw [YY, GM] at hr
    rw [X5, show l.length + 2 + s.size = l.length + (s.size + 2) from by omega]
    simpa [pu] using hr
   exact J1 Jn Jxo Jo JAy JAz Js2 [] 1 0 (JIq 0) hl rfl ((JOy 0 nl l l.length s k).trans hg)
 · cases hr
def F40 : Fns := Jr 75 JIx (Jr 52 JDo (F0))
theorem JDG : Jp tau Tryz.prog F40 := ((Js).add JAr JH6).add JAD JDt
def JDH : Nm := [(2, .any), (3, .any), (4, .any), (5, .any), (22, .any), (23, .any), (24, .any)]
def JIA : An := (.seq .leaf (.seq (.cond .leaf .leaf) (.seq (.block none (.seq .leaf .leaf)) .leaf)))
def JDI : An := (.seq .leaf (.seq .leaf (.seq (.seq .leaf (.block none (.loop JDH JIA))) (.seq .leaf .leaf))))
abbrev Vp (y0 : Int) := (fTo FloatKind.f64 (fOf FloatKind.f64 y0))
abbrev GN (id_N : Int) := (fTo FloatKind.f64 (fOf FloatKind.f64 id_N))
abbrev JcK (y1 : Int) := (fTo FloatKind.f64 (fOf FloatKind.f64 y1))
abbrev JeY (y2 : Int) := (fTo FloatKind.f64 (fOf FloatKind.f64 y2))
abbrev Jh0 (y0 : Int) (id_N : Int) (y1 : Int) (y2 : Int) := (JH [PV.ro 5 false false (pu IntKind.u8 (QF ((Vp y0).getD 0)) ++ pu IntKind.u8 (QF ((GN id_N).getD 0)) ++ pu IntKind.u8 (QF ((JcK y1).getD 0)) ++ pu IntKind.u8 (QF ((JeY y2).getD 0)))])
abbrev JeZ := (2 ^ (IntKind.i64.bits - 1) - Nat.succ 0)
def g40 (f : Nat) (y0 id_N y1 y2 : Int) (k : KR) : OR := bif (Vp y0).isSome && decide (Int.negSucc 9223372036854775807 <= (Vp y0).getD 0) && decide ((Vp y0).getD 0 <= Int.ofNat JeZ) && true then bif (GN id_N).isSome && decide (Int.negSucc 9223372036854775807 <= (GN id_N).getD 0) && decide ((GN id_N).getD 0 <= Int.ofNat JeZ) && true then bif slB false (pu IntKind.u8 (QF ((Vp y0).getD 0))) then bif (JcK y1).isSome && decide (Int.negSucc 9223372036854775807 <= (JcK y1).getD 0) && decide ((JcK y1).getD 0 <= Int.ofNat JeZ) && true then bif slB false (pu IntKind.u8 (QF ((Vp y0).getD 0)) ++ pu IntKind.u8 (QF ((GN id_N).getD 0))) then bif (JeY y2).isSome && decide (Int.negSucc 9223372036854775807 <= (JeY y2).getD 0) && decide ((JeY y2).getD 0 <= Int.ofNat JeZ) && true then bif slB false (pu IntKind.u8 (QF ((Vp y0).getD 0)) ++ pu IntKind.u8 (QF ((GN id_N).getD 0)) ++ pu IntKind.u8 (QF ((JcK y1).getD 0))) then bif Jk IntKind.u8 (Jh0 y0 id_N y1 y2) && decide ((Jh0 y0 id_N y1 y2).length <= 140737488355000) then k (Res.mk (.st 56 [.st 46 [.sc (.int .i64 y0), .sc (.int .i64 id_N)], .sc (.string (ByteArray.mk #[])), .ro 67 false false [.st 67 [.sc (.int .i64 y1), .sc (.int .i64 y2)]], .sc (.int .i64 0), .ar 28 (pu IntKind.u8 (JX (JC (Jh0 y0 id_N y1 y2))))]) [] []) else none else none else none else none else none else none else none else none
theorem e40 (f : Nat) (y0 id_N y1 y2 : Int) (k : KR) : JI tau F40 Tryz.f40 (Tryz.f40.body.get!) JDI [.ro] 4 [.st 46 [.sc (.int .i64 y0), .sc (.int .i64 id_N)], .st 67 [.sc (.int .i64 y1), .sc (.int .i64 y2)]] [] k = g40 f y0 id_N y1 y2 k := by kernel_rfl
theorem JOD (f : Nat) : ∀ q ∈ Jf (Tryz.f40.body.get!) JDI, q.Ok tau Tryz.prog 0 := Jv (by kernel_rfl)
theorem JIB : Tryz.prog.funcs[40]? = some Tryz.f40 := by kernel_rfl
theorem JIC : Tryz.f40.body = some (Tryz.f40.body.get!) := by kernel_rfl
theorem JOE : Enters Tryz.prog 40 := enters_of JIB (by kernel_rfl) JIC
theorem Jxw : (List.range 128).all (fun i => fTo .f64 (fOf .f64 (i : Int)) == some (i : Int)) = true := by kernel_rfl
theorem V3 {x : Int} (h0 : 0 <= x) (h1 : x < 128) : fTo .f64 (fOf .f64 x) = some x := by
 have := List.all_eq_true.1 Jxw x.toNat (List.mem_range.2 (by omega))
 rw [show ((x.toNat : Nat) : Int) = x from by omega] at this
 simpa using this
structure Nw4 where
 (a b c d : Int)
def Je0 : Nw4 -> Bool := hid fun x => (decide (0 <= x.a) && decide (x.a < 128)) && (decide (0 <= x.b) && decide (x.b < 128)) && (decide (0 <= x.c) && decide (x.c < 128)) && (decide (0 <= x.d) && decide (x.d < 128))
def Js9 (x : Nw4) : List Int := QF x.a ++ QF x.b ++ QF x.c ++ QF x.d
def Jxx : Nw4 -> List Int := hid fun x => JX (Js9 x)
theorem Jxy (x : Nw4) : Jxx x = JX (Js9 x) := by rw [Jxx, hid_eq]
def wnP (h n d u : Int) (s : List Int) : PV := .st 56 [.st 46 [.sc (.int .i64 h), .sc (.int .i64 n)], .sc (.string (ByteArray.mk #[])), .ro 67 false false [.st 67 [.sc (.int .i64 d), .sc (.int .i64 u)]], .sc (.int .i64 0), .ar 28 (pu .u8 s)]
theorem JDJ (h n d u : Int) (hs : Je0 ⟨h, n, d, u⟩ = true) (k : KR) : g40 0 h n d u k = k ⟨wnP h n d u (Jxx ⟨h, n, d, u⟩), [], []⟩ := by
 rw [Je0, hid_eq] at hs
 simp only [Bool.and_eq_true, decide_eq_true_eq] at hs
 have c : ∀ x : Int, 0 <= x -> x < 128 -> (decide (Int.negSucc 9223372036854775807 <= x) && decide (x <= Int.ofNat (2 ^ (IntKind.i64.bits - 1) - Nat.succ 0))) = true := by
   intro x h0 h1
   have e1 : Int.ofNat (2 ^ (IntKind.i64.bits - 1) - Nat.succ 0) = 9223372036854775807 := by decide
   rw [e1]; simp; omega
 have c1 : ∀ x : Int, 0 <= x -> x < 128 -> decide (Int.negSucc 9223372036854775807 <= x) = true := fun x h0 h1 => by have := c x h0 h1; simp only [Bool.and_eq_true] at this; exact this.1
 have c2 : ∀ x : Int, 0 <= x -> x < 128 -> decide (x <= Int.ofNat (2 ^ (IntKind.i64.bits - 1) - Nat.succ 0)) = true := fun x h0 h1 => by have := c x h0 h1; simp only [Bool.and_eq_true] at this; exact this.2
 rw [Jxy]
 unfold g40 JeZ Jh0 JeY JcK GN Vp
 simp only [V3 hs.1.1.1.1 hs.1.1.1.2, V3 hs.1.1.2.1 hs.1.1.2.2, V3 hs.1.2.1 hs.1.2.2, V3 hs.2.1 hs.2.2, Option.isSome_some, Option.getD_some, c1 _ hs.1.1.1.1 hs.1.1.1.2, c1 _ hs.1.1.2.1 hs.1.1.2.2, c1 _ hs.1.2.1 hs.1.2.2, c1 _ hs.2.1 hs.2.2, c2 _ hs.1.1.1.1 hs.1.1.1.2, c2 _ hs.1.1.2.1 hs.1.1.2.2, c2 _ hs.1.2.1 hs.1.2.2, c2 _ hs.2.1 hs.2.2,
   WL, JO, JD, XQ, JaX, PV.els, List.append_nil, List.nil_append, List.length_append, Vo, Bool.and_true, Bool.true_and, cond_true, Nat.reduceAdd, Nat.reduceLeDiff, decide_true]
 have sl : ∀ l : List PV, l.length <= 1000 -> slB false l = true := fun l h => XG.2 ⟨fun h => (by cases h), by omega⟩
 refine (Ja (sl _ (by simp))).trans ((Ja (sl _ (by simp))).trans ((Ja (sl _ (by simp))).trans ((Ja ?_).trans ?_)))
 · simp only [Wd, JO]; rfl
 simp only [← Qa, WL]
 rfl
def JmF : Jy
 | [.st 46 [.sc (.int .i64 h), .sc (.int .i64 n)], .st 67 [.sc (.int .i64 d), .sc (.int .i64 u)]], [], k => bif Je0 ⟨h, n, d, u⟩ then k ⟨.st 56 [.st 46 [.sc (.int .i64 h), .sc (.int .i64 n)], .sc (.string (ByteArray.mk #[])), .ro 67 false false [.st 67 [.sc (.int .i64 d), .sc (.int .i64 u)]], .sc (.int .i64 0), .ar 28 (pu .u8 (Jxx ⟨h, n, d, u⟩))], [], []⟩ else none
 | _, _, _ => none
def JID : Sig := { own := [], run := JmF }
theorem JIE : Jc tau Tryz.prog 40 JID := Jc.mk' fun xs es k res hl hr => by
 change JmF xs es k = some res at hr
 unfold JmF at hr
 split at hr
 · rename_i h n d u
   obtain ⟨hc, hr2⟩ := Ju hr
   exact J1 Jn JDG Jo JIB JIC JDI [.ro] 0 4 (JOD 0) hl rfl ((e40 0 h n d u k).trans ((JDJ h n d u hc k).trans hr2))
 · cases hr
def F12 : Fns := Jr 40 JID (F0)
theorem JDK : Jp tau Tryz.prog F12 := (Js).add JIE JOE
def JDL : An := (.seq .leaf (.seq .leaf (.seq .leaf .leaf)))
def g12 (f : Nat) (k : KR) : OR := bif Je0 (Nw4.mk 1 0 1 2) then k (Res.mk (.sc (.bool true)) [] []) else none
theorem e12 (f : Nat) (k : KR) : JI tau F12 Tryz.f12 (Tryz.f12.body.get!) JDL [.ro] 0 [] [] k = g12 f k := by kernel_rfl
theorem JOF (f : Nat) : ∀ q ∈ Jf (Tryz.f12.body.get!) JDL, q.Ok tau Tryz.prog 0 := Jv (by kernel_rfl)
theorem JIF : Tryz.prog.funcs[12]? = some Tryz.f12 := by kernel_rfl
theorem JIG : Tryz.f12.body = some (Tryz.f12.body.get!) := by kernel_rfl
theorem JOG : Enters Tryz.prog 12 := enters_of JIF (by kernel_rfl) JIG
def Jta : Jy
 | [], [], k => g12 0  k
 | _, _, _ => none
def s12 : Sig := { own := [], run := Jta }
theorem JOH : Jc tau Tryz.prog 12 s12 := JN Jn JDK Jo JIF JIG JDL [.ro] 0 [] Jta (JOF 0) fun xs es k res hr => by
 unfold Jta at hr
 split at hr
 · exact ⟨rfl, 0, (e12 0  _).trans hr⟩
 · cases hr
def JIH : Fns := F0
theorem Jxz : Jp tau Tryz.prog JIH := Js
def Jtb : An := (.seq .leaf (.seq .leaf .leaf))
def JxA (f : Nat) (a_D a_U b_D b_U : Int) (k : KR) : OR := bif decide (a_D < b_D) then k (Res.mk (.sc (.bool true)) [] []) else bif a_D == b_D then k (Res.mk (.sc (.bool (decide (a_U < b_U)))) [] []) else k (Res.mk (.sc (.bool false)) [] [])
theorem JOI (f : Nat) (a_D a_U b_D b_U : Int) (k : KR) : JI tau JIH Tryz.f114 (Tryz.f114.body.get!) Jtb [.ro] 0 [.st 67 [.sc (.int .i64 a_D), .sc (.int .i64 a_U)], .st 67 [.sc (.int .i64 b_D), .sc (.int .i64 b_U)]] [] k = JxA f a_D a_U b_D b_U k := by kernel_rfl
theorem JII (f : Nat) : ∀ q ∈ Jf (Tryz.f114.body.get!) Jtb, q.Ok tau Tryz.prog 0 := Jv (by kernel_rfl)
theorem JAF : Tryz.prog.funcs[114]? = some Tryz.f114 := by kernel_rfl
theorem JAG : Tryz.f114.body = some (Tryz.f114.body.get!) := by kernel_rfl
theorem JIJ : Enters Tryz.prog 114 := enters_of JAF (by kernel_rfl) JAG
def JmG : Jy
 | [.st 67 [.sc (.int .i64 a_D), .sc (.int .i64 a_U)], .st 67 [.sc (.int .i64 b_D), .sc (.int .i64 b_U)]], [], k => JxA 0 a_D a_U b_D b_U k
 | _, _, _ => none
def JOJ : Sig := { own := [], run := JmG }
theorem JIK : Jc tau Tryz.prog 114 JOJ := JN Jn Jxz Jo JAF JAG Jtb [.ro] 0 [] JmG (JII 0) fun xs es k res hr => by
 unfold JmG at hr
 split at hr
 · exact ⟨rfl, 0, (JOI 0 _ _ _ _  _).trans hr⟩
 · cases hr
def N55 : Nat := 18
def F55 : Fns := F0
theorem Jtc : Jp tau Tryz.prog F55 := Js
def Jpr : Code := Qd (Tryz.f55.body.get!) [1, 0, 1, 0, 0]
def Je1 : Nm := [(0, .any), (3, .any), (5, .any)]
def Jh1 : Nm := [(4, .any)]
def Jtd : An := (.seq (.seq .leaf (.cond .leaf .leaf)) (.seq (.block none (.seq .leaf (.cond (.seq .leaf .leaf) .leaf))) .leaf))
def JxB (r0 : Qt) : An := (.seq .leaf (.seq (.seq .leaf (.block none (.sum Je1 N55 r0))) (.seq .leaf .leaf)))
abbrev Jte := Bool -> Bool -> List PV -> Int -> Int -> Int -> OR
def Jbb (f : Nat) (rc : Jte) (k0 : Bool -> OR) (k1 : OR) (v0 v1 : Bool) (v2 : List PV) (v3 v4 v5 : Int) : OR := bif decide (v3 < zi v2.length) then bif decide (0 <= v3) && decide (v3 < zi v2.length) && (PV.isSt 67 #[Field.mk "D" 3 0 false "" "" 0, Field.mk "U" 3 1 false "" "" 8].size (v2.getD v3.toNat PV.top) && (PV.isInt IntKind.i64 (PV.child 0 (v2.getD v3.toNat PV.top)) && (PV.isInt IntKind.i64 (PV.child (0 + 1) (v2.getD v3.toNat PV.top)) && true))) && true then bif (PV.child 0 (v2.getD v3.toNat PV.top)).int == v4 && ((PV.child (0 + 1) (v2.getD v3.toNat PV.top)).int == v5 && true) then k0 true else rc v0 v1 v2 (IntKind.i64.wrap (v3 + 1)) v4 v5 else none else k1
def GO (f : Nat) (k0 : Bool -> OR) (k1 : OR) : Nat -> Jte
 | 0 => fun _ _ _ _ _ _ => none
 | n + 1 => Jbb f (GO f k0 k1 n) k0 k1
def Jbc (k : Kont) := fun x0 => k Ex.ret (Ji Jh1 N55 [.sc (.bool x0)] [])
def Jbd (k : Kont) := k (Ex.exit 0) (Ji Jh1 N55 [PV.top] [])
def JmH (f : Nat) (k : Kont) (n : Nat) (v0 v1 : Bool) (v2 : List PV) (v3 v4 v5 : Int) : OR := Jx tau 0 Je1 (fun s k => ev tau F55 0 0 Jpr (Jtd ) s k) n (Ji Je1 N55 [.ro 67 v0 v1 v2, .ptr 304 [], .sc (.int .i64 v3)] [(304, .box false 67 (PV.st 67 [.sc (.int .i64 v4), .sc (.int .i64 v5)]))]) (JG tau 0 Jh1 k)
theorem JxC (f : Nat) (k : Kont) (n : Nat) : JmH f k (n + 1) = Jbb f (JmH f k n) (Jbc k) (Jbd k) := by kernel_rfl
theorem Jps (f : Nat) (k : Kont) : ∀ n, JmH f k n = GO f (Jbc k) (Jbd k) n
 | 0 => rfl
 | n + 1 => (JxC f k n).trans (congrArg (fun r => Jbb f r (Jbc k) (Jbd k)) (Jps f k n))
def Je2 (f : Nat) : List PV -> List (Nat × Ent) -> Kont -> OR
 | [.ro 67 v0 v1 v2, .ptr 304 [],
 PV.sc
  (Value.int IntKind.i64
   v3)], [(304,
  Ent.box false 67
   (PV.st 67
    [.sc (.int .i64 v4),
     .sc (.int .i64 v5)]))], k => GO f (Jbc k) (Jbd k) f v0 v1 v2 v3 v4 v5
 | _, _, _ => none
theorem JDM (f : Nat) : Jf Jpr Jtd = [] := by kernel_rfl
theorem JDN (f : Nat) : (Item.l Jpr Je1 N55 (Je2 f)).Ok tau Tryz.prog 0 := Jt Jn Jtc Jo (x := Jtd) (nm2 := Jh1) (Jl _ _ (by rw [JDM f]; intro q hq; cases hq)) fun vs hp k res hr => by
 unfold Je2 at hr
 split at hr
 · rw [← Jps f] at hr; exact ⟨f, 0, hr⟩
 · cases hr
def g55 (f : Nat) (l_z l_f : Bool) (l : List PV) (a_D a_U : Int) (k : KR) : OR := GO f (fun x0_0 => k (Res.mk (.sc (.bool x0_0)) [] [])) (k (Res.mk (.sc (.bool false)) [] [])) f l_z l_f l (0) a_D a_U
theorem e55 (f : Nat) (l_z l_f : Bool) (l : List PV) (a_D a_U : Int) (k : KR) : JI tau F55 Tryz.f55 (Tryz.f55.body.get!) (JxB (Je2 f)) [.ro] 0 [.ro 67 l_z l_f l, .st 67 [.sc (.int .i64 a_D), .sc (.int .i64 a_U)]] [] k = g55 f l_z l_f l a_D a_U k := by kernel_rfl
theorem JOK (f : Nat) : Jf (Tryz.f55.body.get!) (JxB (Je2 f)) = [.l Jpr Je1 N55 (Je2 f)] := by kernel_rfl
theorem JOL (f : Nat) : ∀ q ∈ Jf (Tryz.f55.body.get!) (JxB (Je2 f)), q.Ok tau Tryz.prog 0 := by rw [JOK f]; exact JJ (JDN f) (fun _ h => nomatch h)
theorem JIL : Tryz.prog.funcs[55]? = some Tryz.f55 := by kernel_rfl
theorem JIM : Tryz.f55.body = some (Tryz.f55.body.get!) := by kernel_rfl
theorem JDO : Enters Tryz.prog 55 := enters_of JIL (by kernel_rfl) JIM
def JIN : Fns := F0
theorem JxD : Jp tau Tryz.prog JIN := Js
def Jtf : An := (.seq .leaf (.seq (.seq .leaf (.block none (.seq (.seq .leaf (.cond .leaf .leaf)) (.cond (.seq .leaf (.cond (.seq .leaf .leaf) .leaf)) (.seq .leaf (.cond (.seq .leaf (.cond (.seq .leaf .leaf) .leaf)) (.seq .leaf .leaf))))))) (.seq (.seq .leaf (.cond (.seq .leaf .leaf) .leaf)) (.seq .leaf .leaf))))
def JxE (f : Nat) (y0 c_N : Int) (c_S : ByteArray) (k : KR) : OR := bif y0 == 1 then bif y0 == 1 then bif decide (c_N < 1) then k (Res.mk (.sc (.int .i64 1)) [] []) else bif decide (c_N > 120) then k (Res.mk (.sc (.int .i64 1)) [] []) else bif !YB c_S (ByteArray.mk (Array.mk [])) then k (Res.mk (.sc (.int .i64 1)) [] []) else bif decide (zi c_S.size > 120) then k (Res.mk (.sc (.int .i64 5)) [] []) else k (Res.mk (.sc (.int .i64 0)) [] []) else bif y0 == 2 then bif c_N != 0 then k (Res.mk (.sc (.int .i64 1)) [] []) else bif YB c_S (ByteArray.mk (Array.mk [])) then k (Res.mk (.sc (.int .i64 1)) [] []) else bif decide (zi c_S.size > 120) then k (Res.mk (.sc (.int .i64 5)) [] []) else k (Res.mk (.sc (.int .i64 0)) [] []) else k (Res.mk (.sc (.int .i64 3)) [] []) else bif y0 == 3 then bif decide (c_N < 1) then k (Res.mk (.sc (.int .i64 1)) [] []) else bif decide (c_N > 120) then k (Res.mk (.sc (.int .i64 1)) [] []) else bif !YB c_S (ByteArray.mk (Array.mk [])) then k (Res.mk (.sc (.int .i64 1)) [] []) else bif decide (zi c_S.size > 120) then k (Res.mk (.sc (.int .i64 5)) [] []) else k (Res.mk (.sc (.int .i64 0)) [] []) else bif y0 == 2 then bif c_N != 0 then k (Res.mk (.sc (.int .i64 1)) [] []) else bif YB c_S (ByteArray.mk (Array.mk [])) then k (Res.mk (.sc (.int .i64 1)) [] []) else bif decide (zi c_S.size > 120) then k (Res.mk (.sc (.int .i64 5)) [] []) else k (Res.mk (.sc (.int .i64 0)) [] []) else k (Res.mk (.sc (.int .i64 3)) [] [])
theorem JOM (f : Nat) (y0 c_N : Int) (c_S : ByteArray) (k : KR) : JI tau JIN Tryz.f133 (Tryz.f133.body.get!) Jtf [.ro] 0 [.st 53 [.sc (.int .i64 y0), .sc (.int .i64 c_N), .sc (.string c_S)]] [] k = JxE f y0 c_N c_S k := by kernel_rfl
theorem JIO (f : Nat) : ∀ q ∈ Jf (Tryz.f133.body.get!) Jtf, q.Ok tau Tryz.prog 0 := Jv (by kernel_rfl)
theorem JAH : Tryz.prog.funcs[133]? = some Tryz.f133 := by kernel_rfl
theorem JAI : Tryz.f133.body = some (Tryz.f133.body.get!) := by kernel_rfl
theorem JIP : Enters Tryz.prog 133 := enters_of JAH (by kernel_rfl) JAI
def JmI : Jy
 | [.st 53 [.sc (.int .i64 y0), .sc (.int .i64 c_N), .sc (.string c_S)]], [], k => JxE 0 y0 c_N c_S k
 | _, _, _ => none
def JON : Sig := { own := [], run := JmI }
theorem JIQ : Jc tau Tryz.prog 133 JON := JN Jn JxD Jo JAH JAI Jtf [.ro] 0 [] JmI (JIO 0) fun xs es k res hr => by
 unfold JmI at hr
 split at hr
 · exact ⟨rfl, 0, (JOM 0 _ _ _  _).trans hr⟩
 · cases hr
def JIR : Fns := F0
theorem JxF : Jp tau Tryz.prog JIR := Js
def Jtg : An := (.seq .leaf (.seq (.seq .leaf (.block none (.seq (.seq .leaf (.cond .leaf .leaf)) (.cond (.seq .leaf (.cond (.seq .leaf .leaf) .leaf)) (.seq .leaf (.cond (.seq (.seq .leaf (.cond (.seq .leaf .leaf) .leaf)) (.seq .leaf (.cond (.seq .leaf .leaf) .leaf))) (.seq .leaf .leaf))))))) (.seq .leaf .leaf)))
def JxG (f : Nat) (y0 c_N : Int) (c_S : ByteArray) (k : KR) : OR := bif y0 == 1 then bif y0 == 1 then bif decide (c_N < 1) then k (Res.mk (.sc (.int .i64 1)) [] []) else bif decide (c_N > 120) then k (Res.mk (.sc (.int .i64 1)) [] []) else bif !YB c_S (ByteArray.mk (Array.mk [])) then k (Res.mk (.sc (.int .i64 1)) [] []) else k (Res.mk (.sc (.int .i64 0)) [] []) else bif y0 == 2 then bif c_N != 0 then k (Res.mk (.sc (.int .i64 1)) [] []) else bif YB c_S (ByteArray.mk (Array.mk [])) then k (Res.mk (.sc (.int .i64 1)) [] []) else bif decide (zi c_S.size > 120) then k (Res.mk (.sc (.int .i64 5)) [] []) else k (Res.mk (.sc (.int .i64 0)) [] []) else k (Res.mk (.sc (.int .i64 3)) [] []) else bif y0 == 3 then bif decide (c_N < 1) then k (Res.mk (.sc (.int .i64 1)) [] []) else bif decide (c_N > 120) then k (Res.mk (.sc (.int .i64 1)) [] []) else bif !YB c_S (ByteArray.mk (Array.mk [])) then k (Res.mk (.sc (.int .i64 1)) [] []) else k (Res.mk (.sc (.int .i64 0)) [] []) else bif y0 == 2 then bif c_N != 0 then k (Res.mk (.sc (.int .i64 1)) [] []) else bif YB c_S (ByteArray.mk (Array.mk [])) then k (Res.mk (.sc (.int .i64 1)) [] []) else bif decide (zi c_S.size > 120) then k (Res.mk (.sc (.int .i64 5)) [] []) else k (Res.mk (.sc (.int .i64 0)) [] []) else k (Res.mk (.sc (.int .i64 3)) [] [])
theorem JOO (f : Nat) (y0 c_N : Int) (c_S : ByteArray) (k : KR) : JI tau JIR Tryz.f110 (Tryz.f110.body.get!) Jtg [.ro] 0 [.st 53 [.sc (.int .i64 y0), .sc (.int .i64 c_N), .sc (.string c_S)]] [] k = JxG f y0 c_N c_S k := by kernel_rfl
theorem JIS (f : Nat) : ∀ q ∈ Jf (Tryz.f110.body.get!) Jtg, q.Ok tau Tryz.prog 0 := Jv (by kernel_rfl)
theorem JAJ : Tryz.prog.funcs[110]? = some Tryz.f110 := by kernel_rfl
theorem JAK : Tryz.f110.body = some (Tryz.f110.body.get!) := by kernel_rfl
theorem JIT : Enters Tryz.prog 110 := enters_of JAJ (by kernel_rfl) JAK
def JmJ : Jy
 | [.st 53 [.sc (.int .i64 y0), .sc (.int .i64 c_N), .sc (.string c_S)]], [], k => JxG 0 y0 c_N c_S k
 | _, _, _ => none
def JOP : Sig := { own := [], run := JmJ }
theorem JIU : Jc tau Tryz.prog 110 JOP := JN Jn JxF Jo JAJ JAK Jtg [.ro] 0 [] JmJ (JIS 0) fun xs es k res hr => by
 unfold JmJ at hr
 split at hr
 · exact ⟨rfl, 0, (JOO 0 _ _ _  _).trans hr⟩
 · cases hr
structure CV where
 (kd n : Int) (s : ByteArray)
def Jkz (c : CV) : Int :=
 bif c.kd == 1 || c.kd == 3 then (bif decide (c.n < 1) || (decide (c.n > 120) || !(c.s.size == 0)) then 1 else 0)
 else bif c.kd == 2 then (bif !(c.n == 0) || c.s.size == 0 then 1 else bif decide (zi c.s.size > 120) then 5 else 0) else 3
def ckC : CV -> Int := hid Jkz
theorem JcL (c : CV) : ckC c = Jkz c := by rw [ckC, hid_eq]
theorem JkA (s : ByteArray) : YB s (ByteArray.mk (Array.mk [])) = (s.size == 0) := by
 rw [Jpq]
 cases h : (s.size == 0) with
 | true =>
  have hs : s.size = 0 := by simpa using h
  refine decide_eq_true (ByteArray.ext (Array.eq_empty_of_size_eq_zero hs))
 | false =>
  refine decide_eq_false fun he => ?_
  rw [he] at h
  exact absurd h (by decide)
theorem JxH (kd n : Int) (s : ByteArray) (k : KR) : JxE 0 kd n s k = k ⟨.sc (.int .i64 (ckC ⟨kd, n, s⟩)), [], []⟩ := by
 rw [JcL]
 unfold JxE Jkz
 simp only [JkA, bne]
 have hcomb : (s.size == 0) = true -> decide (zi s.size > 120) = false := fun h => by
  have : s.size = 0 := by simpa using h
  rw [this]; decide
 generalize (s.size == 0) = e0 at *
 generalize decide (zi s.size > 120) = e1 at *
 generalize decide (n < 1) = a
 generalize decide (n > 120) = b
 generalize (n == 0) = c
 generalize (kd == 1) = d1
 generalize (kd == 2) = d2
 generalize (kd == 3) = d3
 cases d1 <;> cases d3 <;> cases d2 <;> cases e0 <;> cases e1 <;> cases a <;> cases b <;> cases c <;> first | rfl | exact absurd (hcomb rfl) (by decide)
def Jh2 : Jy
 | [.st 53 [.sc (.int .i64 kd), .sc (.int .i64 n), .sc (.string s)]], [], k => k ⟨.sc (.int .i64 (ckC ⟨kd, n, s⟩)), [], []⟩
 | _, _, _ => none
def JAL : Sig := { own := [], run := Jh2 }
theorem JDP : Jc tau Tryz.prog 133 JAL := JIQ.of fun xs es k res hr => by
 change Jh2 xs es k = some res at hr
 unfold Jh2 at hr
 split at hr
 · rename_i kd n s
   exact (JxH kd n s k).trans hr
 · cases hr
theorem JxI (kd n : Int) (s : ByteArray) (k : KR) : JxG 0 kd n s k = k ⟨.sc (.int .i64 (ckC ⟨kd, n, s⟩)), [], []⟩ := by
 rw [JcL]
 unfold JxG Jkz
 simp only [JkA, bne]
 have hcomb : (s.size == 0) = true -> decide (zi s.size > 120) = false := fun h => by
  have : s.size = 0 := by simpa using h
  rw [this]; decide
 generalize (s.size == 0) = e0 at *
 generalize decide (zi s.size > 120) = e1 at *
 generalize decide (n < 1) = a
 generalize decide (n > 120) = b
 generalize (n == 0) = c
 generalize (kd == 1) = d1
 generalize (kd == 2) = d2
 generalize (kd == 3) = d3
 cases d1 <;> cases d3 <;> cases d2 <;> cases e0 <;> cases e1 <;> cases a <;> cases b <;> cases c <;> first | rfl | exact absurd (hcomb rfl) (by decide)
def Jh3 : Jy
 | [.st 53 [.sc (.int .i64 kd), .sc (.int .i64 n), .sc (.string s)]], [], k => k ⟨.sc (.int .i64 (ckC ⟨kd, n, s⟩)), [], []⟩
 | _, _, _ => none
def JAM : Sig := { own := [], run := Jh3 }
theorem JDQ : Jc tau Tryz.prog 110 JAM := JIU.of fun xs es k res hr => by
 change Jh3 xs es k = some res at hr
 unfold Jh3 at hr
 split at hr
 · rename_i kd n s
   exact (JxI kd n s k).trans hr
 · cases hr
def N91 : Nat := 21
def F91 : Fns := Jr 133 JAL (F0)
theorem Jth : Jp tau Tryz.prog F91 := (Js).add JDP JIP
def Jpt : Code := Qd (Tryz.f91.body.get!) [1, 1, 0, 1, 0, 0]
def Je3 : Nm := [(9, .any), (10, .any), (11, .any)]
def Jh4 : Nm := [(2, .any)]
def Jti : An := (.seq .leaf (.seq (.cond .leaf .leaf) (.seq (.block none (.seq .leaf (.seq .leaf (.seq .leaf (.cond (.seq .leaf .leaf) .leaf))))) .leaf)))
def JxJ (r0 : Qt) : An := (.seq .leaf (.seq (.seq .leaf (.cond (.seq .leaf .leaf) .leaf)) (.seq (.seq .leaf (.block none (.sum Je3 N91 r0))) (.seq .leaf .leaf))))
abbrev Jtj := Bool -> Bool -> List PV -> Int -> Int -> OR
abbrev Zn (v2 : List PV) (v4 : Int) := (CV.mk (PV.child 0 (v2.getD v4.toNat PV.top)).int (PV.child (0 + 1) (v2.getD v4.toNat PV.top)).int (PV.child (0 + 1 + 1) (v2.getD v4.toNat PV.top)).str)
def Jbe (f : Nat) (rc : Jtj) (k0 : Int -> OR) (k1 : OR) (v0 v1 : Bool) (v2 : List PV) (v3 v4 : Int) : OR := bif decide (v4 < v3) then bif decide (0 <= v4) && decide (v4 < zi v2.length) && (PV.isSt 53 #[Field.mk "Kind" 3 0 false "" "" 0, Field.mk "N" 3 1 false "" "" 8, Field.mk "S" 9 2 false "" "" 16].size (v2.getD v4.toNat PV.top) && (PV.isInt IntKind.i64 (PV.child 0 (v2.getD v4.toNat PV.top)) && (PV.isInt IntKind.i64 (PV.child (0 + 1) (v2.getD v4.toNat PV.top)) && ((PV.child (0 + 1 + 1) (v2.getD v4.toNat PV.top)).isStr && true)))) && true then bif ckC (Zn v2 v4) != 0 then k0 (ckC (Zn v2 v4)) else rc v0 v1 v2 v3 (IntKind.i64.wrap (v4 + 1)) else none else k1
def GP (f : Nat) (k0 : Int -> OR) (k1 : OR) : Nat -> Jtj
 | 0 => fun _ _ _ _ _ => none
 | n + 1 => Jbe f (GP f k0 k1 n) k0 k1
def Jbf (k : Kont) := fun x0 => k Ex.ret (Ji Jh4 N91 [.sc (.int .i64 x0)] [])
def Jbg (k : Kont) := k (Ex.exit 0) (Ji Jh4 N91 [PV.top] [])
def JmK (f : Nat) (k : Kont) (n : Nat) (v0 v1 : Bool) (v2 : List PV) (v3 v4 : Int) : OR := Jx tau 0 Je3 (fun s k => ev tau F91 0 0 Jpt (Jti ) s k) n (Ji Je3 N91 [.ro 53 v0 v1 v2, .sc (.int .i64 v3), .sc (.int .i64 v4)] []) (JG tau 0 Jh4 k)
theorem JxK (f : Nat) (k : Kont) (n : Nat) : JmK f k (n + 1) = Jbe f (JmK f k n) (Jbf k) (Jbg k) := by kernel_rfl
theorem Jpu (f : Nat) (k : Kont) : ∀ n, JmK f k n = GP f (Jbf k) (Jbg k) n
 | 0 => rfl
 | n + 1 => (JxK f k n).trans (congrArg (fun r => Jbe f r (Jbf k) (Jbg k)) (Jpu f k n))
def Je4 (f : Nat) : List PV -> List (Nat × Ent) -> Kont -> OR
 | [.ro 53 v0 v1 v2, .sc (.int .i64 v3),
 .sc (.int .i64 v4)], [], k => GP f (Jbf k) (Jbg k) f v0 v1 v2 v3 v4
 | _, _, _ => none
theorem JDR (f : Nat) : Jf Jpt Jti = [] := by kernel_rfl
theorem JDS (f : Nat) : (Item.l Jpt Je3 N91 (Je4 f)).Ok tau Tryz.prog 0 := Jt Jn Jth Jo (x := Jti) (nm2 := Jh4) (Jl _ _ (by rw [JDR f]; intro q hq; cases hq)) fun vs hp k res hr => by
 unfold Je4 at hr
 split at hr
 · rw [← Jpu f] at hr; exact ⟨f, 0, hr⟩
 · cases hr
def g91 (f : Nat) (o_z o_f : Bool) (o : List PV) (k : KR) : OR := bif decide (zi o.length > 40) then k (Res.mk (.sc (.int .i64 4)) [] []) else GP f (fun x0_0 => k (Res.mk (.sc (.int .i64 x0_0)) [] [])) (k (Res.mk (.sc (.int .i64 0)) [] [])) f o_z o_f o (zi o.length) (0)
theorem e91 (f : Nat) (o_z o_f : Bool) (o : List PV) (k : KR) : JI tau F91 Tryz.f91 (Tryz.f91.body.get!) (JxJ (Je4 f)) [.ro] 0 [.ro 53 o_z o_f o] [] k = g91 f o_z o_f o k := by kernel_rfl
theorem JOQ (f : Nat) : Jf (Tryz.f91.body.get!) (JxJ (Je4 f)) = [.l Jpt Je3 N91 (Je4 f)] := by kernel_rfl
theorem JOR (f : Nat) : ∀ q ∈ Jf (Tryz.f91.body.get!) (JxJ (Je4 f)), q.Ok tau Tryz.prog 0 := by rw [JOQ f]; exact JJ (JDS f) (fun _ h => nomatch h)
theorem JIV : Tryz.prog.funcs[91]? = some Tryz.f91 := by kernel_rfl
theorem JIW : Tryz.f91.body = some (Tryz.f91.body.get!) := by kernel_rfl
theorem JDT : Enters Tryz.prog 91 := enters_of JIV (by kernel_rfl) JIW
def N56 : Nat := 22
def F56 : Fns := Jr 110 JAM (F0)
theorem Jtk : Jp tau Tryz.prog F56 := (Js).add JDQ JIT
def Jpv : Code := Qd (Tryz.f56.body.get!) [1, 1, 0, 1, 0, 0]
def Je5 : Nm := [(0, .any), (3, .any)]
def Jh5 : Nm := [(2, .any)]
def Jtl : An := (.seq (.seq .leaf (.cond .leaf .leaf)) (.seq (.block none (.seq .leaf (.seq .leaf (.cond (.seq .leaf .leaf) .leaf)))) .leaf))
def JxL (r0 : Qt) : An := (.seq .leaf (.seq (.seq .leaf (.cond (.seq .leaf .leaf) .leaf)) (.seq (.seq .leaf (.block none (.sum Je5 N56 r0))) (.seq .leaf .leaf))))
abbrev Jtm := Bool -> Bool -> List PV -> Int -> OR
abbrev Zo (v2 : List PV) (v3 : Int) := (CV.mk (PV.child 0 (v2.getD v3.toNat PV.top)).int (PV.child (0 + 1) (v2.getD v3.toNat PV.top)).int (PV.child (0 + 1 + 1) (v2.getD v3.toNat PV.top)).str)
def Jbh (f : Nat) (rc : Jtm) (k0 : Int -> OR) (k1 : OR) (v0 v1 : Bool) (v2 : List PV) (v3 : Int) : OR := bif decide (v3 < zi v2.length) then bif decide (0 <= v3) && decide (v3 < zi v2.length) && (PV.isSt 53 #[Field.mk "Kind" 3 0 false "" "" 0, Field.mk "N" 3 1 false "" "" 8, Field.mk "S" 9 2 false "" "" 16].size (v2.getD v3.toNat PV.top) && (PV.isInt IntKind.i64 (PV.child 0 (v2.getD v3.toNat PV.top)) && (PV.isInt IntKind.i64 (PV.child (0 + 1) (v2.getD v3.toNat PV.top)) && ((PV.child (0 + 1 + 1) (v2.getD v3.toNat PV.top)).isStr && true)))) && true then bif ckC (Zo v2 v3) != 0 then k0 (ckC (Zo v2 v3)) else rc v0 v1 v2 (IntKind.i64.wrap (v3 + 1)) else none else k1
def GQ (f : Nat) (k0 : Int -> OR) (k1 : OR) : Nat -> Jtm
 | 0 => fun _ _ _ _ => none
 | n + 1 => Jbh f (GQ f k0 k1 n) k0 k1
def Jbi (k : Kont) := fun x0 => k Ex.ret (Ji Jh5 N56 [.sc (.int .i64 x0)] [])
def Jbj (k : Kont) := k (Ex.exit 0) (Ji Jh5 N56 [PV.top] [])
def JmL (f : Nat) (k : Kont) (n : Nat) (v0 v1 : Bool) (v2 : List PV) (v3 : Int) : OR := Jx tau 0 Je5 (fun s k => ev tau F56 0 0 Jpv (Jtl ) s k) n (Ji Je5 N56 [.ro 53 v0 v1 v2, .sc (.int .i64 v3)] []) (JG tau 0 Jh5 k)
theorem JxM (f : Nat) (k : Kont) (n : Nat) : JmL f k (n + 1) = Jbh f (JmL f k n) (Jbi k) (Jbj k) := by kernel_rfl
theorem Jpw (f : Nat) (k : Kont) : ∀ n, JmL f k n = GQ f (Jbi k) (Jbj k) n
 | 0 => rfl
 | n + 1 => (JxM f k n).trans (congrArg (fun r => Jbh f r (Jbi k) (Jbj k)) (Jpw f k n))
def Je6 (f : Nat) : List PV -> List (Nat × Ent) -> Kont -> OR
 | [.ro 53 v0 v1 v2,
 .sc (.int .i64 v3)], [], k => GQ f (Jbi k) (Jbj k) f v0 v1 v2 v3
 | _, _, _ => none
theorem JDU (f : Nat) : Jf Jpv Jtl = [] := by kernel_rfl
theorem JDV (f : Nat) : (Item.l Jpv Je5 N56 (Je6 f)).Ok tau Tryz.prog 0 := Jt Jn Jtk Jo (x := Jtl) (nm2 := Jh5) (Jl _ _ (by rw [JDU f]; intro q hq; cases hq)) fun vs hp k res hr => by
 unfold Je6 at hr
 split at hr
 · rw [← Jpw f] at hr; exact ⟨f, 0, hr⟩
 · cases hr
def g56 (f : Nat) (o_z o_f : Bool) (o : List PV) (k : KR) : OR := bif decide (zi o.length > 40) then k (Res.mk (.sc (.int .i64 4)) [] []) else GQ f (fun x0_0 => k (Res.mk (.sc (.int .i64 x0_0)) [] [])) (k (Res.mk (.sc (.int .i64 0)) [] [])) f o_z o_f o (0)
theorem e56 (f : Nat) (o_z o_f : Bool) (o : List PV) (k : KR) : JI tau F56 Tryz.f56 (Tryz.f56.body.get!) (JxL (Je6 f)) [.ro] 0 [.ro 53 o_z o_f o] [] k = g56 f o_z o_f o k := by kernel_rfl
theorem JOS (f : Nat) : Jf (Tryz.f56.body.get!) (JxL (Je6 f)) = [.l Jpv Je5 N56 (Je6 f)] := by kernel_rfl
theorem JOT (f : Nat) : ∀ q ∈ Jf (Tryz.f56.body.get!) (JxL (Je6 f)), q.Ok tau Tryz.prog 0 := by rw [JOS f]; exact JJ (JDV f) (fun _ h => nomatch h)
theorem JIX : Tryz.prog.funcs[56]? = some Tryz.f56 := by kernel_rfl
theorem JIY : Tryz.f56.body = some (Tryz.f56.body.get!) := by kernel_rfl
theorem JDW : Enters Tryz.prog 56 := enters_of JIX (by kernel_rfl) JIY
def N41 : Nat := 20
def F41 : Fns := F0
theorem Jtn : Jp tau Tryz.prog F41 := Js
def Jpx : Code := Qd (Tryz.f41.body.get!) [1, 0, 1, 0, 0]
def Je7 : Nm := [(0, .any), (3, .any)]
def Jh6 : Nm := [(0, .any), (2, .any)]
def Jto : An := (.seq (.seq .leaf (.cond .leaf .leaf)) (.seq (.block none (.seq .leaf (.cond (.seq .leaf .leaf) .leaf))) .leaf))
def JxN (r0 : Qt) : An := (.seq .leaf (.seq (.seq .leaf (.block none (.sum Je7 N41 r0))) (.seq .leaf .leaf)))
abbrev Jtp := Bool -> Bool -> List PV -> Int -> OR
def Jbk (f : Nat) (rc : Jtp) (k0 : Bool -> Bool -> List PV -> Bool -> OR) (k1 : Bool -> Bool -> List PV -> OR) (v0 v1 : Bool) (v2 : List PV) (v3 : Int) : OR := bif decide (v3 < zi v2.length) then bif decide (0 <= v3) && decide (v3 < zi v2.length) && (PV.isSt 53 #[Field.mk "Kind" 3 0 false "" "" 0, Field.mk "N" 3 1 false "" "" 8, Field.mk "S" 9 2 false "" "" 16].size (v2.getD v3.toNat PV.top) && (PV.isInt IntKind.i64 (PV.child 0 (v2.getD v3.toNat PV.top)) && (PV.isInt IntKind.i64 (PV.child (0 + 1) (v2.getD v3.toNat PV.top)) && ((PV.child (0 + 1 + 1) (v2.getD v3.toNat PV.top)).isStr && true)))) && true then bif decide (zi (PV.child (0 + 1 + 1) (v2.getD v3.toNat PV.top)).str.size > 150) then k0 v0 v1 v2 false else rc v0 v1 v2 (IntKind.i64.wrap (v3 + 1)) else none else k1 v0 v1 v2
def GR (f : Nat) (k0 : Bool -> Bool -> List PV -> Bool -> OR) (k1 : Bool -> Bool -> List PV -> OR) : Nat -> Jtp
 | 0 => fun _ _ _ _ => none
 | n + 1 => Jbk f (GR f k0 k1 n) k0 k1
def Jbl (k : Kont) := fun x0 x1 x2 x3 => k Ex.ret (Ji Jh6 N41 [.ro 53 x0 x1 x2, .sc (.bool x3)] [])
def Jbm (k : Kont) := fun x0 x1 x2 => k (Ex.exit 0) (Ji Jh6 N41 [.ro 53 x0 x1 x2, PV.top] [])
def JmM (f : Nat) (k : Kont) (n : Nat) (v0 v1 : Bool) (v2 : List PV) (v3 : Int) : OR := Jx tau 0 Je7 (fun s k => ev tau F41 0 0 Jpx (Jto ) s k) n (Ji Je7 N41 [.ro 53 v0 v1 v2, .sc (.int .i64 v3)] []) (JG tau 0 Jh6 k)
theorem JxO (f : Nat) (k : Kont) (n : Nat) : JmM f k (n + 1) = Jbk f (JmM f k n) (Jbl k) (Jbm k) := by kernel_rfl
theorem Jpy (f : Nat) (k : Kont) : ∀ n, JmM f k n = GR f (Jbl k) (Jbm k) n
 | 0 => rfl
 | n + 1 => (JxO f k n).trans (congrArg (fun r => Jbk f r (Jbl k) (Jbm k)) (Jpy f k n))
def Je8 (f : Nat) : List PV -> List (Nat × Ent) -> Kont -> OR
 | [.ro 53 v0 v1 v2,
 PV.sc
  (Value.int IntKind.i64
   v3)], [], k => GR f (Jbl k) (Jbm k) f v0 v1 v2 v3
 | _, _, _ => none
theorem JDX (f : Nat) : Jf Jpx Jto = [] := by kernel_rfl
theorem JDY (f : Nat) : (Item.l Jpx Je7 N41 (Je8 f)).Ok tau Tryz.prog 0 := Jt Jn Jtn Jo (x := Jto) (nm2 := Jh6) (Jl _ _ (by rw [JDX f]; intro q hq; cases hq)) fun vs hp k res hr => by
 unfold Je8 at hr
 split at hr
 · rw [← Jpy f] at hr; exact ⟨f, 0, hr⟩
 · cases hr
def g41 (f : Nat) (o_z o_f : Bool) (o : List PV) (k : KR) : OR := GR f (fun _ _ _ JP => k (Res.mk (.sc (.bool JP)) [] [])) (fun _ _ x2_1 => k (Res.mk (.sc (.bool (decide (zi x2_1.length <= 50)))) [] [])) f o_z o_f o (0)
theorem e41 (f : Nat) (o_z o_f : Bool) (o : List PV) (k : KR) : JI tau F41 Tryz.f41 (Tryz.f41.body.get!) (JxN (Je8 f)) [.ro] 0 [.ro 53 o_z o_f o] [] k = g41 f o_z o_f o k := by kernel_rfl
theorem JOU (f : Nat) : Jf (Tryz.f41.body.get!) (JxN (Je8 f)) = [.l Jpx Je7 N41 (Je8 f)] := by kernel_rfl
theorem JOV (f : Nat) : ∀ q ∈ Jf (Tryz.f41.body.get!) (JxN (Je8 f)), q.Ok tau Tryz.prog 0 := by rw [JOU f]; exact JJ (JDY f) (fun _ h => nomatch h)
theorem JIZ : Tryz.prog.funcs[41]? = some Tryz.f41 := by kernel_rfl
theorem JI0 : Tryz.f41.body = some (Tryz.f41.body.get!) := by kernel_rfl
theorem JOW : Enters Tryz.prog 41 := enters_of JIZ (by kernel_rfl) JI0
def isCp : PV -> Bool
 | .st t [.sc (.int .i64 _), .sc (.int .i64 _), .sc (.string _)] => t == 53
 | _ => false
theorem Je9 {p : PV} : isCp p = true ↔ ∃ kd n s, p = .st 53 [.sc (.int .i64 kd), .sc (.int .i64 n), .sc (.string s)] := by
 constructor
 · intro h
   unfold isCp at h
   split at h
   · rename_i t kd n s
     obtain rfl : t = 53 := by simpa using h
     exact ⟨kd, n, s, rfl⟩
   · cases h
 · rintro ⟨kd, n, s, rfl⟩; rfl
def cv (p : PV) : CV := ⟨(p.child 0).int, (p.child 1).int, (p.child 2).str⟩
theorem W6 {p : PV} (h : isCp p = true) : (PV.isSt 53 #[Field.mk "Kind" 3 0 false "" "" 0, Field.mk "N" 3 1 false "" "" 8, Field.mk "S" 9 2 false "" "" 16].size p && (PV.isInt IntKind.i64 (PV.child 0 p) && (PV.isInt IntKind.i64 (PV.child (0 + 1) p) && ((PV.child (0 + 1 + 1) p).isStr && true)))) = true := by
 obtain ⟨kd, n, s, rfl⟩ := Je9.1 h
 simp [PV.isSt, PV.child, PV.isInt, PV.isStr]
theorem Wv {l : List PV} (h : l.all isCp = true) {i : Nat} (hi : i < l.length) : isCp (l.getD i .top) = true := by
 rw [List.getD_eq_getElem?_getD, List.getElem?_eq_getElem hi]
 exact List.all_eq_true.1 h _ (List.getElem_mem hi)
def ckL : List PV -> Int
 | [] => 0
 | p :: r => bif ckC (cv p) == 0 then ckL r else ckC (cv p)
def JrE (l : List PV) : Int := bif decide (zi l.length > 40) then 4 else ckL l
def ckO : List PV -> Int := hid JrE
theorem Jh7 (l : List PV) : ckO l = JrE l := by rw [ckO, hid_eq]
def cOk : List PV -> Bool := hid fun l => l.all isCp && Nat.ble l.length 9223372036854775807
theorem Wh {l : List PV} : cOk l = true ↔ l.all isCp = true /\ l.length <= 9223372036854775807 := by
 rw [cOk, hid_eq, Bool.and_eq_true, Nat.ble_eq]
theorem JY {l : List PV} {i : Nat} (h : i < l.length) : l.drop i = l.getD i .top :: l.drop (i + 1) := by
 rw [List.drop_eq_getElem_cons h]; simp [List.getD_eq_getElem?_getD, h]
theorem JAN (l : List PV) (h1 : l.all isCp = true) (h2 : l.length <= 40) (f : Nat) (k0 : Int -> OR) (k1 : OR) (z fl : Bool) : ∀ (d i n : Nat), i + d = l.length -> d < n ->
  GP f k0 k1 n z fl l (zi l.length) (i : Int) = bif ckL (l.drop i) == 0 then k1 else k0 (ckL (l.drop i))
 | 0, i, n + 1, hi, hn => by
   rw [List.drop_of_length_le (by omega)]
   simp only [GP, Jbe, Zn]
   exact Jd (by simp [zi]; omega)
 | d + 1, i, n + 1, hi, hn => by
   have g1 := tI i
   have w1 := wI (i := i) (by omega)
   have hro : (decide (0 <= (i : Int)) && decide ((i : Int) < zi l.length) && (PV.isSt 53 #[Field.mk "Kind" 3 0 false "" "" 0, Field.mk "N" 3 1 false "" "" 8, Field.mk "S" 9 2 false "" "" 16].size (l.getD i PV.top) && (PV.isInt IntKind.i64 (PV.child 0 (l.getD i PV.top)) && (PV.isInt IntKind.i64 (PV.child (0 + 1) (l.getD i PV.top)) && ((PV.child (0 + 1 + 1) (l.getD i PV.top)).isStr && true)))) && true) = true := by
    have hq : (PV.isSt 53 #[Field.mk "Kind" 3 0 false "" "" 0, Field.mk "N" 3 1 false "" "" 8, Field.mk "S" 9 2 false "" "" 16].size (l.getD i PV.top) && (PV.isInt IntKind.i64 (PV.child 0 (l.getD i PV.top)) && (PV.isInt IntKind.i64 (PV.child (0 + 1) (l.getD i PV.top)) && ((PV.child (0 + 1 + 1) (l.getD i PV.top)).isStr && true)))) = true := W6 (Wv h1 (by omega))
    rw [hq]; simp [zi]; omega
   have hd := JY (l := l) (i := i) (by omega)
   have hs : CV.mk (PV.child 0 (l.getD i PV.top)).int (PV.child (0 + 1) (l.getD i PV.top)).int (PV.child (0 + 1 + 1) (l.getD i PV.top)).str = cv (l.getD i .top) := rfl
   simp only [GP, Jbe, Zn, g1, w1, hs]
   refine (Ja (by simp [zi]; omega)).trans ((Ja hro).trans ?_)
   rw [hd]
   cases hc : (ckC (cv (l.getD i .top)) == 0) with
   | true =>
    refine (Jd (by simp only [bne, hc]; rfl)).trans ?_
    rw [JAN l h1 h2 f k0 k1 z fl d (i + 1) n (by omega) (by omega)]
    simp only [ckL, hc, cond_true]
   | false =>
    refine (Ja (by simp only [bne, hc]; rfl)).trans ?_
    simp only [ckL, hc, cond_false]
def JmN : Jy
 | [.ro 53 z f l], [], k => bif cOk l then k ⟨.sc (.int .i64 (ckO l)), [], []⟩ else none
 | _, _, _ => none
def JxP : Sig := { own := [], run := JmN }
theorem JDZ (z f : Bool) (l : List PV) (h : cOk l = true) (k : KR) : g91 50 z f l k = k ⟨.sc (.int .i64 (ckO l)), [], []⟩ := by
 obtain ⟨h1, h2⟩ := Wh.1 h
 rw [Jh7]
 unfold g91 JrE
 cases hc : decide (zi l.length > 40) with
 | true => rfl
 | false =>
  have hl : l.length <= 40 := by simp only [zi, decide_eq_false_iff_not] at hc; omega
  rw [cond_false, cond_false]
  refine (JAN l h1 hl 50 _ _ z f l.length 0 50 (by omega) (by omega)).trans ?_
  rw [List.drop_zero]
  cases h0 : (ckL l == 0) with
  | true =>
   have : ckL l = 0 := by simpa using h0
   rw [this]; rfl
  | false => rfl
theorem Jtq : Jc tau Tryz.prog 91 JxP := Jc.mk' fun xs es k res hl hr => by
 change JmN xs es k = some res at hr
 unfold JmN at hr
 split at hr
 · rename_i z f l
   obtain ⟨hc, hr⟩ := Ju hr
   exact J1 Jn Jth Jo JIV JIW (JxJ (Je4 50)) [.ro] 0 0 (JOR 50) hl rfl ((e91 50 z f l k).trans ((JDZ z f l hc k).trans hr))
 · cases hr
theorem JAO (l : List PV) (h1 : l.all isCp = true) (h2 : l.length <= 40) (f : Nat) (k0 : Int -> OR) (k1 : OR) (z fl : Bool) : ∀ (d i n : Nat), i + d = l.length -> d < n ->
  GQ f k0 k1 n z fl l (i : Int) = bif ckL (l.drop i) == 0 then k1 else k0 (ckL (l.drop i))
 | 0, i, n + 1, hi, hn => by
   rw [List.drop_of_length_le (by omega)]
   simp only [GQ, Jbh, Zo]
   exact Jd (by simp [zi]; omega)
 | d + 1, i, n + 1, hi, hn => by
   have g1 := tI i
   have w1 := wI (i := i) (by omega)
   have hro : (decide (0 <= (i : Int)) && decide ((i : Int) < zi l.length) && (PV.isSt 53 #[Field.mk "Kind" 3 0 false "" "" 0, Field.mk "N" 3 1 false "" "" 8, Field.mk "S" 9 2 false "" "" 16].size (l.getD i PV.top) && (PV.isInt IntKind.i64 (PV.child 0 (l.getD i PV.top)) && (PV.isInt IntKind.i64 (PV.child (0 + 1) (l.getD i PV.top)) && ((PV.child (0 + 1 + 1) (l.getD i PV.top)).isStr && true)))) && true) = true := by
    have hq : (PV.isSt 53 #[Field.mk "Kind" 3 0 false "" "" 0, Field.mk "N" 3 1 false "" "" 8, Field.mk "S" 9 2 false "" "" 16].size (l.getD i PV.top) && (PV.isInt IntKind.i64 (PV.child 0 (l.getD i PV.top)) && (PV.isInt IntKind.i64 (PV.child (0 + 1) (l.getD i PV.top)) && ((PV.child (0 + 1 + 1) (l.getD i PV.top)).isStr && true)))) = true := W6 (Wv h1 (by omega))
    rw [hq]; simp [zi]; omega
   have hd := JY (l := l) (i := i) (by omega)
   have hs : CV.mk (PV.child 0 (l.getD i PV.top)).int (PV.child (0 + 1) (l.getD i PV.top)).int (PV.child (0 + 1 + 1) (l.getD i PV.top)).str = cv (l.getD i .top) := rfl
   simp only [GQ, Jbh, Zo, g1, w1, hs]
   refine (Ja (by simp [zi]; omega)).trans ((Ja hro).trans ?_)
   rw [hd]
   cases hc : (ckC (cv (l.getD i .top)) == 0) with
   | true =>
    refine (Jd (by simp only [bne, hc]; rfl)).trans ?_
    rw [JAO l h1 h2 f k0 k1 z fl d (i + 1) n (by omega) (by omega)]
    simp only [ckL, hc, cond_true]
   | false =>
    refine (Ja (by simp only [bne, hc]; rfl)).trans ?_
    simp only [ckL, hc, cond_false]
def JmO : Jy
 | [.ro 53 z f l], [], k => bif cOk l then k ⟨.sc (.int .i64 (ckO l)), [], []⟩ else none
 | _, _, _ => none
def JxQ : Sig := { own := [], run := JmO }
theorem JD0 (z f : Bool) (l : List PV) (h : cOk l = true) (k : KR) : g56 50 z f l k = k ⟨.sc (.int .i64 (ckO l)), [], []⟩ := by
 obtain ⟨h1, h2⟩ := Wh.1 h
 rw [Jh7]
 unfold g56 JrE
 cases hc : decide (zi l.length > 40) with
 | true => rfl
 | false =>
  have hl : l.length <= 40 := by simp only [zi, decide_eq_false_iff_not] at hc; omega
  rw [cond_false, cond_false]
  refine (JAO l h1 hl 50 _ _ z f l.length 0 50 (by omega) (by omega)).trans ?_
  rw [List.drop_zero]
  cases h0 : (ckL l == 0) with
  | true =>
   have : ckL l = 0 := by simpa using h0
   rw [this]; rfl
  | false => rfl
theorem Jtr : Jc tau Tryz.prog 56 JxQ := Jc.mk' fun xs es k res hl hr => by
 change JmO xs es k = some res at hr
 unfold JmO at hr
 split at hr
 · rename_i z f l
   obtain ⟨hc, hr⟩ := Ju hr
   exact J1 Jn Jtk Jo JIX JIY (JxL (Je6 50)) [.ro] 0 0 (JOT 50) hl rfl ((e56 50 z f l k).trans ((JD0 z f l hc k).trans hr))
 · cases hr
def JmP : List PV -> Bool := hid fun l => l.all (fun p => decide ((cv p).s.size <= 150)) && decide (l.length <= 50)
theorem Jpz (l : List PV) : JmP l = (l.all (fun p => decide ((cv p).s.size <= 150)) && decide (l.length <= 50)) := by rw [JmP, hid_eq]
theorem JAP (l : List PV) (h1 : l.all isCp = true) (h2 : l.length <= 9223372036854775807) (f : Nat) (k0 : Bool -> Bool -> List PV -> Bool -> OR) (k1 : Bool -> Bool -> List PV -> OR) (z fl : Bool) : ∀ (d i n : Nat), i + d = l.length -> d < n ->
  GR f k0 k1 n z fl l (i : Int) = bif (l.drop i).all (fun p => decide ((cv p).s.size <= 150)) then k1 z fl l else k0 z fl l false
 | 0, i, n + 1, hi, hn => by
   rw [List.drop_of_length_le (by omega)]
   simp only [GR, Jbk]
   exact Jd (by simp [zi]; omega)
 | d + 1, i, n + 1, hi, hn => by
   have g1 := tI i
   have w1 := wI (i := i) (by omega)
   have hro : (decide (0 <= (i : Int)) && decide ((i : Int) < zi l.length) && (PV.isSt 53 #[Field.mk "Kind" 3 0 false "" "" 0, Field.mk "N" 3 1 false "" "" 8, Field.mk "S" 9 2 false "" "" 16].size (l.getD i PV.top) && (PV.isInt IntKind.i64 (PV.child 0 (l.getD i PV.top)) && (PV.isInt IntKind.i64 (PV.child (0 + 1) (l.getD i PV.top)) && ((PV.child (0 + 1 + 1) (l.getD i PV.top)).isStr && true)))) && true) = true := by
     have hq : (PV.isSt 53 #[Field.mk "Kind" 3 0 false "" "" 0, Field.mk "N" 3 1 false "" "" 8, Field.mk "S" 9 2 false "" "" 16].size (l.getD i PV.top) && (PV.isInt IntKind.i64 (PV.child 0 (l.getD i PV.top)) && (PV.isInt IntKind.i64 (PV.child (0 + 1) (l.getD i PV.top)) && ((PV.child (0 + 1 + 1) (l.getD i PV.top)).isStr && true)))) = true := W6 (Wv h1 (by omega))
     rw [hq]; simp [zi]; omega
   have hd := JY (l := l) (i := i) (by omega)
   have hs : (PV.child (0 + 1 + 1) (l.getD i PV.top)).str = (cv (l.getD i .top)).s := rfl
   simp only [GR, Jbk, g1, w1, hs]
   refine (Ja (by simp [zi]; omega)).trans ((Ja hro).trans ?_)
   rw [hd, List.all_cons]
   by_cases hc : (cv (l.getD i .top)).s.size <= 150
   · refine (Jd (by simp only [zi, decide_eq_false_iff_not]; omega)).trans ?_
     rw [decide_eq_true hc, Bool.true_and]
     exact JAP l h1 h2 f k0 k1 z fl d (i + 1) n (by omega) (by omega)
   · refine (Ja (by simp only [zi, decide_eq_true_eq]; omega)).trans ?_
     rw [decide_eq_false hc]; rfl
def JmQ : Jy
 | [.ro 53 z f l], [], k => bif cOk l then k ⟨.sc (.bool (JmP l)), [], []⟩ else none
 | _, _, _ => none
def JI1 : Sig := { own := [], run := JmQ }
theorem JD1 (z f : Bool) (l : List PV) (h : cOk l = true) (k : KR) : g41 (l.length + 2) z f l k = k ⟨.sc (.bool (JmP l)), [], []⟩ := by
 obtain ⟨h1, h2⟩ := Wh.1 h
 unfold g41
 refine (JAP l h1 h2 (l.length + 2) _ _ z f l.length 0 (l.length + 2) (by omega) (by omega)).trans ?_
 rw [List.drop_zero, Jpz]
 have e : decide (zi l.length <= 50) = decide (l.length <= 50) := by apply decide_eq_decide.2; simp only [zi]; omega
 rw [e]
 cases l.all (fun p => decide ((cv p).s.size <= 150)) <;> rfl
theorem JI2 : Jc tau Tryz.prog 41 JI1 := Jc.mk' fun xs es k res hl hr => by
 change JmQ xs es k = some res at hr
 unfold JmQ at hr
 split at hr
 · rename_i z f l
   obtain ⟨hc, hr⟩ := Ju hr
   exact J1 Jn Jtn Jo JIZ JI0 (JxN (Je8 (l.length + 2))) [.ro] 0 0 (JOV (l.length + 2)) hl rfl ((e41 (l.length + 2) z f l k).trans ((JD1 z f l hc k).trans hr))
 · cases hr
def JI3 : Fns := F0
theorem JxR : Jp tau Tryz.prog JI3 := Js
def Jts : An := (.seq .leaf (.seq .leaf .leaf))
def JxS (f : Nat) (a_D a_U : Int) (k : KR) : OR := bif decide (a_D >= 0) then bif decide (a_D < 3) then bif decide (a_U >= 0) then k (Res.mk (.sc (.bool (decide (a_U < 8)))) [] []) else k (Res.mk (.sc (.bool false)) [] []) else k (Res.mk (.sc (.bool false)) [] []) else k (Res.mk (.sc (.bool false)) [] [])
theorem JOX (f : Nat) (a_D a_U : Int) (k : KR) : JI tau JI3 Tryz.f113 (Tryz.f113.body.get!) Jts [.ro] 0 [.st 67 [.sc (.int .i64 a_D), .sc (.int .i64 a_U)]] [] k = JxS f a_D a_U k := by kernel_rfl
theorem JI4 (f : Nat) : ∀ q ∈ Jf (Tryz.f113.body.get!) Jts, q.Ok tau Tryz.prog 0 := Jv (by kernel_rfl)
theorem JAQ : Tryz.prog.funcs[113]? = some Tryz.f113 := by kernel_rfl
theorem JAR : Tryz.f113.body = some (Tryz.f113.body.get!) := by kernel_rfl
theorem JAS : Enters Tryz.prog 113 := enters_of JAQ (by kernel_rfl) JAR
def JmR : Jy
 | [.st 67 [.sc (.int .i64 a_D), .sc (.int .i64 a_U)]], [], k => JxS 0 a_D a_U k
 | _, _, _ => none
def JOY : Sig := { own := [], run := JmR }
theorem JI5 : Jc tau Tryz.prog 113 JOY := JN Jn JxR Jo JAQ JAR Jts [.ro] 0 [] JmR (JI4 0) fun xs es k res hr => by
 unfold JmR at hr
 split at hr
 · exact ⟨rfl, 0, (JOX 0 _ _  _).trans hr⟩
 · cases hr
def inZ (x m : Int) : Bool := decide (x >= 0) && decide (x <= m)
def JxT : List Int -> Bool
 | x :: m :: r => inZ x m && JxT r
 | _ => true
def inA : List Int -> Bool := hid JxT
theorem JD2 (l : List Int) : inA l = JxT l := by rw [inA, hid_eq]
theorem JkB (a b c d : Int) : inA [a, b, c, d] = (inZ a b && inZ c d) := by rw [JD2]; simp [JxT]
def Jh8 : Jy
 | [.st 67 [.sc (.int .i64 a), .sc (.int .i64 b)]], [], k => k ⟨.sc (.bool (inA [a, 2, b, 7])), [], []⟩
 | _, _, _ => none
def Jtt : Sig := { own := [], run := Jh8 }
theorem Jtu : Jc tau Tryz.prog 113 Jtt := JI5.of fun xs es k res hr => by
 change Jh8 xs es k = some res at hr
 unfold Jh8 at hr
 split at hr
 · rename_i a b
   show JxS 0 a b k = some res
   rw [JkB] at hr
   unfold JxS
   unfold inZ at hr
   by_cases h1 : a >= 0 <;> by_cases h2 : a < 3 <;> by_cases h3 : b >= 0 <;> by_cases h4 : b < 8 <;> simp [h1, h2, h3, h4, show (a <= 2) ↔ (a < 3) from by omega, show (b <= 7) ↔ (b < 8) from by omega] at hr ⊢ <;> exact hr
 · cases hr
def JI6 : Fns := F0
theorem JxU : Jp tau Tryz.prog JI6 := Js
def Jtv : An := (.seq .leaf (.seq .leaf .leaf))
def JI7 (f : Nat) (n most : Int) (k : KR) : OR := bif decide (n >= 0) then k (Res.mk (.sc (.bool (decide (n <= most)))) [] []) else k (Res.mk (.sc (.bool false)) [] [])
theorem JOZ (f : Nat) (n most : Int) (k : KR) : JI tau JI6 Tryz.f131 (Tryz.f131.body.get!) Jtv [.ro] 0 [.sc (.int .i64 n), .sc (.int .i64 most)] [] k = JI7 f n most k := by kernel_rfl
theorem JI8 (f : Nat) : ∀ q ∈ Jf (Tryz.f131.body.get!) Jtv, q.Ok tau Tryz.prog 0 := Jv (by kernel_rfl)
theorem JAT : Tryz.prog.funcs[131]? = some Tryz.f131 := by kernel_rfl
theorem JAU : Tryz.f131.body = some (Tryz.f131.body.get!) := by kernel_rfl
theorem JAV : Enters Tryz.prog 131 := enters_of JAT (by kernel_rfl) JAU
def JmS : Jy
 | [.sc (.int .i64 n), .sc (.int .i64 most)], [], k => JI7 0 n most k
 | _, _, _ => none
def JD3 : Sig := { own := [], run := JmS }
theorem JAW : Jc tau Tryz.prog 131 JD3 := JN Jn JxU Jo JAT JAU Jtv [.ro] 0 [] JmS (JI8 0) fun xs es k res hr => by
 unfold JmS at hr
 split at hr
 · exact ⟨rfl, 0, (JOZ 0 _ _  _).trans hr⟩
 · cases hr
end
end Go.Proofs.YthpmachmnoljeaaGreat.Rx
