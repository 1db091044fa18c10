/- What the functions of this law compute, and their plain laws. Conditions: none. -/
import Derived.Test.YthpmachmnoljeaaProg
import Derived.Test.YthpmachmnoljeaaWaveletTwiceZ4
namespace Go.Proofs.Ythpmachmnoljeaa.Rx
noncomputable section
open Go
set_option linter.unusedVariables false
set_option linter.unusedSimpArgs false
set_option maxRecDepth 100000
set_option maxHeartbeats 0
abbrev Jch : List PV := [PV.sc (.int .u8 0), PV.sc (.int .u8 0), PV.sc (.int .u8 0), PV.sc (.int .u8 0), PV.sc (.int .u8 0), PV.sc (.int .u8 0), PV.sc (.int .u8 0), PV.sc (.int .u8 0), PV.sc (.int .u8 0), PV.sc (.int .u8 0), PV.sc (.int .u8 0), PV.sc (.int .u8 0), PV.sc (.int .u8 0), PV.sc (.int .u8 0), PV.sc (.int .u8 0), PV.sc (.int .u8 0), PV.sc (.int .u8 0), PV.sc (.int .u8 0), PV.sc (.int .u8 0), PV.sc (.int .u8 0), PV.sc (.int .u8 0), PV.sc (.int .u8 0), PV.sc (.int .u8 0), PV.sc (.int .u8 0), PV.sc (.int .u8 0), PV.sc (.int .u8 0), PV.sc (.int .u8 0), PV.sc (.int .u8 0), PV.sc (.int .u8 0), PV.sc (.int .u8 0), PV.sc (.int .u8 0), PV.sc (.int .u8 0)]
abbrev JAX : List PV := [PV.sc (.int .u8 0), PV.sc (.int .u8 0), PV.sc (.int .u8 0), PV.sc (.int .u8 0), PV.sc (.int .u8 0), PV.sc (.int .u8 0), PV.sc (.int .u8 0), PV.sc (.int .u8 0), PV.sc (.int .u8 0), PV.sc (.int .u8 0), PV.sc (.int .u8 0), PV.sc (.int .u8 0), PV.sc (.int .u8 0), PV.sc (.int .u8 0), PV.sc (.int .u8 0), PV.sc (.int .u8 0), PV.sc (.int .u8 0), PV.sc (.int .u8 0), PV.sc (.int .u8 0), PV.sc (.int .u8 0), PV.sc (.int .u8 0), PV.sc (.int .u8 0), PV.sc (.int .u8 0), PV.sc (.int .u8 0), PV.sc (.int .u8 0), PV.sc (.int .u8 0), PV.sc (.int .u8 0), PV.sc (.int .u8 0), PV.sc (.int .u8 0), PV.sc (.int .u8 0), PV.sc (.int .u8 0), PV.sc (.int .u8 0), PV.sc (.int .u8 0), PV.sc (.int .u8 0), PV.sc (.int .u8 0), PV.sc (.int .u8 0), PV.sc (.int .u8 0), PV.sc (.int .u8 0), PV.sc (.int .u8 0), PV.sc (.int .u8 0), PV.sc (.int .u8 0), PV.sc (.int .u8 0), PV.sc (.int .u8 0), PV.sc (.int .u8 0), PV.sc (.int .u8 0), PV.sc (.int .u8 0), PV.sc (.int .u8 0), PV.sc (.int .u8 0), PV.sc (.int .u8 0), PV.sc (.int .u8 0), PV.sc (.int .u8 0), PV.sc (.int .u8 0), PV.sc (.int .u8 0), PV.sc (.int .u8 0), PV.sc (.int .u8 0), PV.sc (.int .u8 0), PV.sc (.int .u8 0), PV.sc (.int .u8 0), PV.sc (.int .u8 0), PV.sc (.int .u8 0), PV.sc (.int .u8 0), PV.sc (.int .u8 0), PV.sc (.int .u8 0), PV.sc (.int .u8 0)]
abbrev Jol : List PV := [PV.sc (.int .u32 0), PV.sc (.int .u32 0), PV.sc (.int .u32 0), PV.sc (.int .u32 0), PV.sc (.int .u32 0), PV.sc (.int .u32 0), PV.sc (.int .u32 0), PV.sc (.int .u32 0), PV.sc (.int .u32 0), PV.sc (.int .u32 0), PV.sc (.int .u32 0), PV.sc (.int .u32 0), PV.sc (.int .u32 0), PV.sc (.int .u32 0), PV.sc (.int .u32 0), PV.sc (.int .u32 0), PV.sc (.int .u32 0), PV.sc (.int .u32 0), PV.sc (.int .u32 0), PV.sc (.int .u32 0), PV.sc (.int .u32 0), PV.sc (.int .u32 0), PV.sc (.int .u32 0), PV.sc (.int .u32 0), PV.sc (.int .u32 0), PV.sc (.int .u32 0), PV.sc (.int .u32 0), PV.sc (.int .u32 0), PV.sc (.int .u32 0), PV.sc (.int .u32 0), PV.sc (.int .u32 0), PV.sc (.int .u32 0), PV.sc (.int .u32 0), PV.sc (.int .u32 0), PV.sc (.int .u32 0), PV.sc (.int .u32 0), PV.sc (.int .u32 0), PV.sc (.int .u32 0), PV.sc (.int .u32 0), PV.sc (.int .u32 0), PV.sc (.int .u32 0), PV.sc (.int .u32 0), PV.sc (.int .u32 0), PV.sc (.int .u32 0), PV.sc (.int .u32 0), PV.sc (.int .u32 0), PV.sc (.int .u32 0), PV.sc (.int .u32 0), PV.sc (.int .u32 0), PV.sc (.int .u32 0), PV.sc (.int .u32 0), PV.sc (.int .u32 0), PV.sc (.int .u32 0), PV.sc (.int .u32 0), PV.sc (.int .u32 0), PV.sc (.int .u32 0), PV.sc (.int .u32 0), PV.sc (.int .u32 0), PV.sc (.int .u32 0), PV.sc (.int .u32 0), PV.sc (.int .u32 0), PV.sc (.int .u32 0), PV.sc (.int .u32 0), PV.sc (.int .u32 0)]
def tys : List TypeId := [1, 2, 3, 4, 5, 9, 12, 21, 22, 23, 24, 25, 26, 28, 29, 30, 31, 32, 33, 34, 35, 36, 37, 38, 39, 40, 41, 42, 43, 45, 46, 47, 48, 49, 50, 51, 52, 53, 55, 56, 57, 58, 59, 60, 61, 62, 63, 64, 65, 66, 67, 68, 69, 70, 72, 73, 74, 75, 76, 77, 78, 79, 80, 81, 83, 85, 86, 87, 88, 89, 90, 91, 92, 94, 95, 96, 97, 98, 99, 100, 101, 102, 103, 104, 105, 106, 107, 109, 110, 111, 112, 113, 114, 115, 116, 117, 118, 120, 122, 123, 124, 125, 126, 128, 129, 130, 131, 132, 133, 134, 135, 136, 137, 138, 139, 140, 141, 142, 143, 144, 145, 146, 148, 149, 150, 152, 154, 155, 156, 157, 158, 159, 160, 161, 162, 163, 164, 165, 166, 167, 168, 169, 170, 171, 172, 173, 174, 175, 176, 177, 178, 179, 180, 181, 182, 183, 185, 186, 187, 188, 189, 190, 191, 192, 201]
def JLZ : TypeId -> Option PV := fun t =>
 bif [1, 23, 24, 28, 32, 40, 45, 55, 56, 59, 60, 61, 62, 63, 64, 65, 66, 67, 70, 72, 73, 74, 78, 79, 80, 81, 83, 85, 86, 87, 91, 92, 94, 95, 99, 100, 101, 103, 104, 105, 106, 107, 109, 110, 111, 114, 115, 116, 117, 118, 120, 122, 123, 124, 126, 128, 129, 130, 131, 132, 133, 136, 137, 138, 139, 144, 145, 146, 148, 149, 150, 152, 154, 155, 156, 157, 160, 161, 162, 163, 164, 168, 171, 172, 175, 176, 177, 178, 179, 180, 181, 182, 183, 185, 186, 187, 188, 189, 191, 192].elem t then some (.sc .nilFunc) else
 bif [2, 3, 43].elem t then some (.sc (.int .i64 0)) else
 bif t == 4 then some (.sc (.bool false)) else
 bif t == 5 then some (.sc (.int .u8 0)) else
 bif t == 9 then some (.sc (.string ByteArray.empty)) else
 bif [12, 140, 158].elem t then some (.sc (.int .u64 0)) else
 bif t == 21 then some (.sc (.int .i32 0)) else
 bif t == 22 then some (.ro 69 true true []) else
 bif t == 25 then some (.ro 51 true true []) else
 bif t == 26 then some (.ro 58 true true []) else
 bif t == 29 then some (.ro 5 true true []) else
 bif t == 30 then some (.st 30 (List.replicate 3 (.ro 5 true true []))) else
 bif t == 31 then some (.st 31 (List.replicate 3 (.ro 5 true true []))) else
 bif t == 33 then some (.st 33 [.sc (.int .i64 0), .sc (.int .i64 0)]) else
 bif t == 34 then some (.st 34 [.sc (.int .i64 0), .sc (.int .i64 0)]) else
 bif t == 35 then some (.ro 42 true true []) else
 bif t == 36 then some (.ar 36 (List.replicate 32 (.sc (.int .u8 0)))) else
 bif t == 37 then some (.ar 37 (List.replicate 32 (.sc (.int .u8 0)))) else
 bif t == 38 then some (.st 38 [.st 34 [.sc (.int .i64 0), .sc (.int .i64 0)], .sc (.string ByteArray.empty), .ro 42 true true [], .sc (.int .i64 0), .ar 37 (List.replicate 32 (.sc (.int .u8 0)))]) else
 bif t == 39 then some (.st 39 [.st 34 [.sc (.int .i64 0), .sc (.int .i64 0)], .sc (.string ByteArray.empty), .ro 42 true true [], .sc (.int .i64 0), .ar 37 (List.replicate 32 (.sc (.int .u8 0)))]) else
 bif t == 41 then some (.st 41 [.sc (.int .i64 0), .sc (.int .i64 0)]) else
 bif t == 42 then some (.st 42 [.sc (.int .i64 0), .sc (.int .i64 0)]) else
 bif t == 46 then some (.st 46 [.ro 5 true true [], .ar 37 (List.replicate 32 (.sc (.int .u8 0)))]) else
 bif t == 47 then some (.st 47 [.ro 5 true true [], .ar 37 (List.replicate 32 (.sc (.int .u8 0)))]) else
 bif [48, 49].elem t then some (.ro 113 true true []) else
 bif t == 50 then some (.st 50 [.st 47 [.ro 5 true true [], .ar 37 (List.replicate 32 (.sc (.int .u8 0)))], .sc (.int .i64 0), .ro 113 true true [], .ar 37 (List.replicate 32 (.sc (.int .u8 0))), .ar 37 (List.replicate 32 (.sc (.int .u8 0)))]) else
 bif t == 51 then some (.st 51 [.st 47 [.ro 5 true true [], .ar 37 (List.replicate 32 (.sc (.int .u8 0)))], .sc (.int .i64 0), .ro 113 true true [], .ar 37 (List.replicate 32 (.sc (.int .u8 0))), .ar 37 (List.replicate 32 (.sc (.int .u8 0)))]) else
 bif t == 52 then some (.st 52 [.st 42 [.sc (.int .i64 0), .sc (.int .i64 0)], .sc (.int .i64 0), .sc (.int .i64 0), .ar 37 (List.replicate 32 (.sc (.int .u8 0))), .sc (.int .i64 0), .ro 113 true true [], .st 42 [.sc (.int .i64 0), .sc (.int .i64 0)]]) else
 bif t == 53 then some (.st 53 [.st 42 [.sc (.int .i64 0), .sc (.int .i64 0)], .sc (.int .i64 0), .sc (.int .i64 0), .ar 37 (List.replicate 32 (.sc (.int .u8 0))), .sc (.int .i64 0), .ro 113 true true [], .st 42 [.sc (.int .i64 0), .sc (.int .i64 0)]]) else
 bif t == 57 then some (.ro 3 true true []) else
 bif t == 58 then some (.st 58 [.st 34 [.sc (.int .i64 0), .sc (.int .i64 0)], .sc (.string ByteArray.empty), .ro 42 true true [], .sc (.int .i64 0), .ar 37 (List.replicate 32 (.sc (.int .u8 0)))]) else
 bif t == 68 then some (.st 68 [.sc (.int .i64 0), .sc (.int .i64 0), .sc (.int .i64 0), .ro 3 true true []]) else
 bif t == 69 then some (.st 69 [.sc (.int .i64 0), .sc (.int .i64 0), .sc (.int .i64 0), .ro 3 true true []]) else
 bif t == 75 then some (.ro 29 true true []) else
 bif t == 76 then some (.st 76 [.sc (.int .i64 0), .sc (.int .i64 0), .sc (.int .i64 0), .st 34 [.sc (.int .i64 0), .sc (.int .i64 0)], .st 42 [.sc (.int .i64 0), .sc (.int .i64 0)], .sc (.int .i64 0), .sc (.int .i64 0), .st 42 [.sc (.int .i64 0), .sc (.int .i64 0)], .sc (.int .i64 0), .sc (.int .i64 0), .ro 29 true true []]) else
 bif t == 77 then some (.st 77 [.sc (.int .i64 0), .sc (.int .i64 0), .sc (.int .i64 0), .st 34 [.sc (.int .i64 0), .sc (.int .i64 0)], .st 42 [.sc (.int .i64 0), .sc (.int .i64 0)], .sc (.int .i64 0), .sc (.int .i64 0), .st 42 [.sc (.int .i64 0), .sc (.int .i64 0)], .sc (.int .i64 0), .sc (.int .i64 0), .ro 29 true true []]) else
 bif t == 88 then some (.sc (.complex .f64 0 0)) else
 bif t == 89 then some (.sc (.float .f64 0)) else
 bif t == 90 then some (.ro 88 true true []) else
 bif [96, 102, 125, 169, 170, 201].elem t then some (.sc (.pointer none)) else
 bif t == 97 then some (.st 97 [.st 39 [.st 34 [.sc (.int .i64 0), .sc (.int .i64 0)], .sc (.string ByteArray.empty), .ro 42 true true [], .sc (.int .i64 0), .ar 37 (List.replicate 32 (.sc (.int .u8 0)))], .st 53 [.st 42 [.sc (.int .i64 0), .sc (.int .i64 0)], .sc (.int .i64 0), .sc (.int .i64 0), .ar 37 (List.replicate 32 (.sc (.int .u8 0))), .sc (.int .i64 0), .ro 113 true true [], .st 42 [.sc (.int .i64 0), .sc (.int .i64 0)]]]) else
 bif t == 98 then some (.st 98 [.st 39 [.st 34 [.sc (.int .i64 0), .sc (.int .i64 0)], .sc (.string ByteArray.empty), .ro 42 true true [], .sc (.int .i64 0), .ar 37 (List.replicate 32 (.sc (.int .u8 0)))], .st 53 [.st 42 [.sc (.int .i64 0), .sc (.int .i64 0)], .sc (.int .i64 0), .sc (.int .i64 0), .ar 37 (List.replicate 32 (.sc (.int .u8 0))), .sc (.int .i64 0), .ro 113 true true [], .st 42 [.sc (.int .i64 0), .sc (.int .i64 0)]]]) else
 bif t == 112 then some (.st 112 [.sc (.int .i64 0), .sc (.int .i64 0), .sc (.string ByteArray.empty)]) else
 bif t == 113 then some (.st 113 [.sc (.int .i64 0), .sc (.int .i64 0), .sc (.string ByteArray.empty)]) else
 bif t == 134 then some (.st 134 [.ro 5 true true [], .sc (.int .i64 0), .sc (.int .i64 0)]) else
 bif t == 135 then some (.st 135 [.ro 5 true true [], .sc (.int .i64 0), .sc (.int .i64 0)]) else
 bif t == 141 then some (.sc (.int .u32 0)) else
 bif t == 142 then some (.ar 142 (List.replicate 8 (.sc (.int .u32 0)))) else
 bif t == 143 then some (.ar 143 (List.replicate 8 (.sc (.int .u32 0)))) else
 bif t == 159 then some (.ar 159 (List.replicate 64 (.sc (.int .u32 0)))) else
 bif t == 165 then some (.st 165 [.ro 5 true true [], .sc (.int .i64 0)]) else
 bif t == 166 then some (.st 166 [.ro 5 true true [], .sc (.int .i64 0)]) else
 bif t == 167 then some (.ro 170 true true []) else
 bif t == 173 then some (.ar 173 (List.replicate 64 (.sc (.int .u8 0)))) else
 bif t == 174 then some (.ar 174 (List.replicate 64 (.sc (.int .u8 0)))) else
 bif t == 190 then some (.ro 35 true true []) else
 none
def tau : Tab := Jav Try.prog tys JLZ
theorem Jn : TabOk tau Try.prog := Jrk (by kernel_rfl)
theorem Jo : Try.prog.follows .mixedOrders = true := by kernel_rfl
abbrev OR := Option Res
abbrev KR := Res -> OR
abbrev Jz := List PV -> List Ent -> (Res -> Option Res) -> Option Res
theorem Jw {c : Code} {an : An} {np : Nat} (h : Jg c an = []) : ∀ q ∈ Jg c an, q.Ok tau Try.prog np := fun q hq => by rw [h] at hq; cases hq
theorem JL {a : Item} {l : List Item} {np : Nat} (h : a.Ok tau Try.prog np) (h2 : ∀ q ∈ l, q.Ok tau Try.prog np) : ∀ q ∈ a :: l, q.Ok tau Try.prog np := List.forall_mem_cons.2 ⟨h, h2⟩
def F0 : Fns := fun _ => none
theorem Js : Jq tau Try.prog F0 := fun g sg h => by cases h

def JFq : Fns := F0
theorem JvO : Jq tau Try.prog JFq := Js
def Jrp : An := (.seq .leaf (.seq .leaf .leaf))
def JvP (f : Nat) (a_D a_U b_D b_U : Int) (k : KR) : OR := bif decide (a_D < b_D) then k (Res.mk (.sc (.bool true)) [] []) else bif a_D == b_D then k (Res.mk (.sc (.bool (decide (a_U < b_U)))) [] []) else k (Res.mk (.sc (.bool false)) [] [])
theorem JL0 (f : Nat) (a_D a_U b_D b_U : Int) (k : KR) : JJ tau JFq Try.f104 (Try.f104.body.get!) Jrp [.ro] 0 [.st 42 [.sc (.int .i64 a_D), .sc (.int .i64 a_U)], .st 42 [.sc (.int .i64 b_D), .sc (.int .i64 b_U)]] [] k = JvP f a_D a_U b_D b_U k := by kernel_rfl
theorem JFr (f : Nat) : ∀ q ∈ Jg (Try.f104.body.get!) Jrp, q.Ok tau Try.prog 0 := Jw (by kernel_rfl)
theorem JyF : Try.prog.funcs[104]? = some Try.f104 := by kernel_rfl
theorem JyG : Try.f104.body = some (Try.f104.body.get!) := by kernel_rfl
theorem JFs : Enters Try.prog 104 := enters_of JyF (by kernel_rfl) JyG
def Jld : Jz
 | [.st 42 [.sc (.int .i64 a_D), .sc (.int .i64 a_U)], .st 42 [.sc (.int .i64 b_D), .sc (.int .i64 b_U)]], [], k => JvP 0 a_D a_U b_D b_U k
 | _, _, _ => none
def JL1 : Sig := { own := [], run := Jld }
theorem JFt : Jc tau Try.prog 104 JL1 := JO Jn JvO Jo JyF JyG Jrp [.ro] 0 [] Jld (JFr 0) fun xs es k res hr => by
 unfold Jld at hr
 split at hr
 · exact ⟨rfl, 0, (JL0 0 _ _ _ _  _).trans hr⟩
 · cases hr
def N58 : Nat := 18
def F58 : Fns := F0
theorem Jrq : Jq tau Try.prog F58 := Js
def Jom : Code := Qf (Try.f58.body.get!) [1, 0, 1, 0, 0]
def Jeh : Nm := [(0, .any), (3, .any), (5, .any)]
def Jhl : Nm := [(4, .any)]
def Jrr : An := (.seq (.seq .leaf (.cond .leaf .leaf)) (.seq (.block none (.seq .leaf (.cond (.seq .leaf .leaf) .leaf))) .leaf))
def JvQ (r0 : Qw) : An := (.seq .leaf (.seq (.seq .leaf (.block none (.sum Jeh N58 r0))) (.seq .leaf .leaf)))
abbrev Jrs := Bool -> Bool -> List PV -> Int -> Int -> Int -> OR
def Jaw (f : Nat) (rc : Jrs) (k0 : Bool -> OR) (k1 : OR) (v0 v1 : Bool) (v2 : List PV) (v3 v4 v5 : Int) : OR := bif decide (v3 < zi v2.length) then bif decide (0 <= v3) && decide (v3 < zi v2.length) && (PV.isSt 42 #[Field.mk "D" 3 0 false "" "" 0, Field.mk "U" 3 1 false "" "" 8].size (v2.getD v3.toNat PV.top) && (PV.isInt IntKind.i64 (PV.child 0 (v2.getD v3.toNat PV.top)) && (PV.isInt IntKind.i64 (PV.child (0 + 1) (v2.getD v3.toNat PV.top)) && true))) && true then bif (PV.child 0 (v2.getD v3.toNat PV.top)).int == v4 && ((PV.child (0 + 1) (v2.getD v3.toNat PV.top)).int == v5 && true) then k0 true else rc v0 v1 v2 (IntKind.i64.wrap (v3 + 1)) v4 v5 else none else k1
def Gu (f : Nat) (k0 : Bool -> OR) (k1 : OR) : Nat -> Jrs
 | 0 => fun _ _ _ _ _ _ => none
 | n + 1 => Jaw f (Gu f k0 k1 n) k0 k1
def Jax (k : Kont) := fun x0 => k Ex.ret (Jj Jhl N58 [.sc (.bool x0)] [])
def Jay (k : Kont) := k (Ex.exit 0) (Jj Jhl N58 [PV.top] [])
def Jle (f : Nat) (k : Kont) (n : Nat) (v0 v1 : Bool) (v2 : List PV) (v3 v4 v5 : Int) : OR := Jy tau 0 Jeh (fun s k => ev tau F58 0 0 Jom (Jrr ) s k) n (Jj Jeh N58 [.ro 42 v0 v1 v2, .ptr 304 [], .sc (.int .i64 v3)] [(304, .box false 42 (PV.st 42 [.sc (.int .i64 v4), .sc (.int .i64 v5)]))]) (JG tau 0 Jhl k)
theorem JvR (f : Nat) (k : Kont) (n : Nat) : Jle f k (n + 1) = Jaw f (Jle f k n) (Jax k) (Jay k) := by kernel_rfl
theorem Jon (f : Nat) (k : Kont) : ∀ n, Jle f k n = Gu f (Jax k) (Jay k) n
 | 0 => rfl
 | n + 1 => (JvR f k n).trans (congrArg (fun r => Jaw f r (Jax k) (Jay k)) (Jon f k n))
def Jei (f : Nat) : List PV -> List (Nat × Ent) -> Kont -> OR
 | [.ro 42 v0 v1 v2, .ptr 304 [],
 PV.sc
  (Value.int IntKind.i64
   v3)], [(304,
  Ent.box false 42
   (PV.st 42
    [.sc (.int .i64 v4),
     .sc (.int .i64 v5)]))], k => Gu f (Jax k) (Jay k) f v0 v1 v2 v3 v4 v5
 | _, _, _ => none
theorem JAY (f : Nat) : Jg Jom Jrr = [] := by kernel_rfl
theorem JAZ (f : Nat) : (Item.l Jom Jeh N58 (Jei f)).Ok tau Try.prog 0 := Ju Jn Jrq Jo (x := Jrr) (nm2 := Jhl) (Jk _ _ (by rw [JAY f]; intro q hq; cases hq)) fun vs hp k res hr => by
 unfold Jei at hr
 split at hr
 · rw [← Jon f] at hr; exact ⟨f, 0, hr⟩
 · cases hr
def g58 (f : Nat) (l_z l_f : Bool) (l : List PV) (a_D a_U : Int) (k : KR) : OR := Gu f (fun x0_0 => k (Res.mk (.sc (.bool x0_0)) [] [])) (k (Res.mk (.sc (.bool false)) [] [])) f l_z l_f l (0) a_D a_U
theorem e58 (f : Nat) (l_z l_f : Bool) (l : List PV) (a_D a_U : Int) (k : KR) : JJ tau F58 Try.f58 (Try.f58.body.get!) (JvQ (Jei f)) [.ro] 0 [.ro 42 l_z l_f l, .st 42 [.sc (.int .i64 a_D), .sc (.int .i64 a_U)]] [] k = g58 f l_z l_f l a_D a_U k := by kernel_rfl
theorem JL2 (f : Nat) : Jg (Try.f58.body.get!) (JvQ (Jei f)) = [.l Jom Jeh N58 (Jei f)] := by kernel_rfl
theorem JL3 (f : Nat) : ∀ q ∈ Jg (Try.f58.body.get!) (JvQ (Jei f)), q.Ok tau Try.prog 0 := by rw [JL2 f]; exact JL (JAZ f) (fun _ h => nomatch h)
theorem JFu : Try.prog.funcs[58]? = some Try.f58 := by kernel_rfl
theorem JFv : Try.f58.body = some (Try.f58.body.get!) := by kernel_rfl
theorem JA0 : Enters Try.prog 58 := enters_of JFu (by kernel_rfl) JFv
def JFw : Fns := F0
theorem JvS : Jq tau Try.prog JFw := Js
def Jrt : An := (.seq .leaf (.seq (.seq .leaf (.block none (.seq (.seq .leaf (.cond .leaf .leaf)) (.cond (.seq .leaf (.cond (.seq .leaf .leaf) .leaf)) (.seq .leaf (.cond (.seq .leaf (.cond (.seq .leaf .leaf) .leaf)) (.seq .leaf .leaf))))))) (.seq (.seq .leaf (.cond (.seq .leaf .leaf) .leaf)) (.seq .leaf .leaf))))
def JvT (f : Nat) (y0 c_N : Int) (c_S : ByteArray) (k : KR) : OR := bif y0 == 1 then bif y0 == 1 then bif decide (c_N < 1) then k (Res.mk (.sc (.int .i64 1)) [] []) else bif decide (c_N > 120) then k (Res.mk (.sc (.int .i64 1)) [] []) else bif !Yy c_S (ByteArray.mk (Array.mk [])) then k (Res.mk (.sc (.int .i64 1)) [] []) else bif decide (zi c_S.size > 120) then k (Res.mk (.sc (.int .i64 5)) [] []) else k (Res.mk (.sc (.int .i64 0)) [] []) else bif y0 == 2 then bif c_N != 0 then k (Res.mk (.sc (.int .i64 1)) [] []) else bif Yy c_S (ByteArray.mk (Array.mk [])) then k (Res.mk (.sc (.int .i64 1)) [] []) else bif decide (zi c_S.size > 120) then k (Res.mk (.sc (.int .i64 5)) [] []) else k (Res.mk (.sc (.int .i64 0)) [] []) else k (Res.mk (.sc (.int .i64 3)) [] []) else bif y0 == 3 then bif decide (c_N < 1) then k (Res.mk (.sc (.int .i64 1)) [] []) else bif decide (c_N > 120) then k (Res.mk (.sc (.int .i64 1)) [] []) else bif !Yy c_S (ByteArray.mk (Array.mk [])) then k (Res.mk (.sc (.int .i64 1)) [] []) else bif decide (zi c_S.size > 120) then k (Res.mk (.sc (.int .i64 5)) [] []) else k (Res.mk (.sc (.int .i64 0)) [] []) else bif y0 == 2 then bif c_N != 0 then k (Res.mk (.sc (.int .i64 1)) [] []) else bif Yy c_S (ByteArray.mk (Array.mk [])) then k (Res.mk (.sc (.int .i64 1)) [] []) else bif decide (zi c_S.size > 120) then k (Res.mk (.sc (.int .i64 5)) [] []) else k (Res.mk (.sc (.int .i64 0)) [] []) else k (Res.mk (.sc (.int .i64 3)) [] [])
theorem JL4 (f : Nat) (y0 c_N : Int) (c_S : ByteArray) (k : KR) : JJ tau JFw Try.f124 (Try.f124.body.get!) Jrt [.ro] 0 [.st 113 [.sc (.int .i64 y0), .sc (.int .i64 c_N), .sc (.string c_S)]] [] k = JvT f y0 c_N c_S k := by kernel_rfl
theorem JFx (f : Nat) : ∀ q ∈ Jg (Try.f124.body.get!) Jrt, q.Ok tau Try.prog 0 := Jw (by kernel_rfl)
theorem JyH : Try.prog.funcs[124]? = some Try.f124 := by kernel_rfl
theorem JyI : Try.f124.body = some (Try.f124.body.get!) := by kernel_rfl
theorem JFy : Enters Try.prog 124 := enters_of JyH (by kernel_rfl) JyI
def Jlf : Jz
 | [.st 113 [.sc (.int .i64 y0), .sc (.int .i64 c_N), .sc (.string c_S)]], [], k => JvT 0 y0 c_N c_S k
 | _, _, _ => none
def JL5 : Sig := { own := [], run := Jlf }
theorem JFz : Jc tau Try.prog 124 JL5 := JO Jn JvS Jo JyH JyI Jrt [.ro] 0 [] Jlf (JFx 0) fun xs es k res hr => by
 unfold Jlf at hr
 split at hr
 · exact ⟨rfl, 0, (JL4 0 _ _ _  _).trans hr⟩
 · cases hr
def JFA : Fns := F0
theorem JvU : Jq tau Try.prog JFA := Js
def Jru : An := (.seq .leaf (.seq (.seq .leaf (.block none (.seq (.seq .leaf (.cond .leaf .leaf)) (.cond (.seq .leaf (.cond (.seq .leaf .leaf) .leaf)) (.seq .leaf (.cond (.seq (.seq .leaf (.cond (.seq .leaf .leaf) .leaf)) (.seq .leaf (.cond (.seq .leaf .leaf) .leaf))) (.seq .leaf .leaf))))))) (.seq .leaf .leaf)))
def JvV (f : Nat) (y0 c_N : Int) (c_S : ByteArray) (k : KR) : OR := bif y0 == 1 then bif y0 == 1 then bif decide (c_N < 1) then k (Res.mk (.sc (.int .i64 1)) [] []) else bif decide (c_N > 120) then k (Res.mk (.sc (.int .i64 1)) [] []) else bif !Yy c_S (ByteArray.mk (Array.mk [])) then k (Res.mk (.sc (.int .i64 1)) [] []) else k (Res.mk (.sc (.int .i64 0)) [] []) else bif y0 == 2 then bif c_N != 0 then k (Res.mk (.sc (.int .i64 1)) [] []) else bif Yy c_S (ByteArray.mk (Array.mk [])) then k (Res.mk (.sc (.int .i64 1)) [] []) else bif decide (zi c_S.size > 120) then k (Res.mk (.sc (.int .i64 5)) [] []) else k (Res.mk (.sc (.int .i64 0)) [] []) else k (Res.mk (.sc (.int .i64 3)) [] []) else bif y0 == 3 then bif decide (c_N < 1) then k (Res.mk (.sc (.int .i64 1)) [] []) else bif decide (c_N > 120) then k (Res.mk (.sc (.int .i64 1)) [] []) else bif !Yy c_S (ByteArray.mk (Array.mk [])) then k (Res.mk (.sc (.int .i64 1)) [] []) else k (Res.mk (.sc (.int .i64 0)) [] []) else bif y0 == 2 then bif c_N != 0 then k (Res.mk (.sc (.int .i64 1)) [] []) else bif Yy c_S (ByteArray.mk (Array.mk [])) then k (Res.mk (.sc (.int .i64 1)) [] []) else bif decide (zi c_S.size > 120) then k (Res.mk (.sc (.int .i64 5)) [] []) else k (Res.mk (.sc (.int .i64 0)) [] []) else k (Res.mk (.sc (.int .i64 3)) [] [])
theorem JL6 (f : Nat) (y0 c_N : Int) (c_S : ByteArray) (k : KR) : JJ tau JFA Try.f101 (Try.f101.body.get!) Jru [.ro] 0 [.st 113 [.sc (.int .i64 y0), .sc (.int .i64 c_N), .sc (.string c_S)]] [] k = JvV f y0 c_N c_S k := by kernel_rfl
theorem JFB (f : Nat) : ∀ q ∈ Jg (Try.f101.body.get!) Jru, q.Ok tau Try.prog 0 := Jw (by kernel_rfl)
theorem JyJ : Try.prog.funcs[101]? = some Try.f101 := by kernel_rfl
theorem JyK : Try.f101.body = some (Try.f101.body.get!) := by kernel_rfl
theorem JFC : Enters Try.prog 101 := enters_of JyJ (by kernel_rfl) JyK
def Jlg : Jz
 | [.st 113 [.sc (.int .i64 y0), .sc (.int .i64 c_N), .sc (.string c_S)]], [], k => JvV 0 y0 c_N c_S k
 | _, _, _ => none
def JL7 : Sig := { own := [], run := Jlg }
theorem JFD : Jc tau Try.prog 101 JL7 := JO Jn JvU Jo JyJ JyK Jru [.ro] 0 [] Jlg (JFB 0) fun xs es k res hr => by
 unfold Jlg at hr
 split at hr
 · exact ⟨rfl, 0, (JL6 0 _ _ _  _).trans hr⟩
 · cases hr
structure CV where
 (kd n : Int) (s : ByteArray)
def JjE (c : CV) : Int :=
 bif c.kd == 1 || c.kd == 3 then (bif decide (c.n < 1) || (decide (c.n > 120) || !(c.s.size == 0)) then 1 else 0)
 else bif c.kd == 2 then (bif !(c.n == 0) || c.s.size == 0 then 1 else bif decide (zi c.s.size > 120) then 5 else 0) else 3
def ckC : CV -> Int := hid JjE
theorem Jci (c : CV) : ckC c = JjE c := by rw [ckC, hid_eq]
theorem JjF (s : ByteArray) : Yy s (ByteArray.mk (Array.mk [])) = (s.size == 0) := by
 rw [Joo]
 cases h : (s.size == 0) with
 | true =>
  have hs : s.size = 0 := by simpa using h
  refine decide_eq_true (ByteArray.ext (Array.eq_empty_of_size_eq_zero hs))
 | false =>
  refine decide_eq_false fun he => ?_
  rw [he] at h
  exact absurd h (by decide)
theorem JvW (kd n : Int) (s : ByteArray) (k : KR) : JvT 0 kd n s k = k ⟨.sc (.int .i64 (ckC ⟨kd, n, s⟩)), [], []⟩ := by
 rw [Jci]
 unfold JvT JjE
 simp only [JjF, bne]
 have hcomb : (s.size == 0) = true -> decide (zi s.size > 120) = false := fun h => by
  have : s.size = 0 := by simpa using h
  rw [this]; decide
 generalize (s.size == 0) = e0 at *
 generalize decide (zi s.size > 120) = e1 at *
 generalize decide (n < 1) = a
 generalize decide (n > 120) = b
 generalize (n == 0) = c
 generalize (kd == 1) = d1
 generalize (kd == 2) = d2
 generalize (kd == 3) = d3
 cases d1 <;> cases d3 <;> cases d2 <;> cases e0 <;> cases e1 <;> cases a <;> cases b <;> cases c <;> first | rfl | exact absurd (hcomb rfl) (by decide)
def Jhm : Jz
 | [.st 113 [.sc (.int .i64 kd), .sc (.int .i64 n), .sc (.string s)]], [], k => k ⟨.sc (.int .i64 (ckC ⟨kd, n, s⟩)), [], []⟩
 | _, _, _ => none
def JyL : Sig := { own := [], run := Jhm }
theorem JA1 : Jc tau Try.prog 124 JyL := JFz.of fun xs es k res hr => by
 change Jhm xs es k = some res at hr
 unfold Jhm at hr
 split at hr
 · rename_i kd n s
   exact (JvW kd n s k).trans hr
 · cases hr
theorem JvX (kd n : Int) (s : ByteArray) (k : KR) : JvV 0 kd n s k = k ⟨.sc (.int .i64 (ckC ⟨kd, n, s⟩)), [], []⟩ := by
 rw [Jci]
 unfold JvV JjE
 simp only [JjF, bne]
 have hcomb : (s.size == 0) = true -> decide (zi s.size > 120) = false := fun h => by
  have : s.size = 0 := by simpa using h
  rw [this]; decide
 generalize (s.size == 0) = e0 at *
 generalize decide (zi s.size > 120) = e1 at *
 generalize decide (n < 1) = a
 generalize decide (n > 120) = b
 generalize (n == 0) = c
 generalize (kd == 1) = d1
 generalize (kd == 2) = d2
 generalize (kd == 3) = d3
 cases d1 <;> cases d3 <;> cases d2 <;> cases e0 <;> cases e1 <;> cases a <;> cases b <;> cases c <;> first | rfl | exact absurd (hcomb rfl) (by decide)
def Jhn : Jz
 | [.st 113 [.sc (.int .i64 kd), .sc (.int .i64 n), .sc (.string s)]], [], k => k ⟨.sc (.int .i64 (ckC ⟨kd, n, s⟩)), [], []⟩
 | _, _, _ => none
def JyM : Sig := { own := [], run := Jhn }
theorem JA2 : Jc tau Try.prog 101 JyM := JFD.of fun xs es k res hr => by
 change Jhn xs es k = some res at hr
 unfold Jhn at hr
 split at hr
 · rename_i kd n s
   exact (JvX kd n s k).trans hr
 · cases hr
def N88 : Nat := 21
def F88 : Fns := Jt 124 JyL (F0)
theorem Jrv : Jq tau Try.prog F88 := (Js).add JA1 JFy
def Jop : Code := Qf (Try.f88.body.get!) [1, 1, 0, 1, 0, 0]
def Jej : Nm := [(9, .any), (10, .any), (11, .any)]
def Jho : Nm := [(2, .any)]
def Jrw : An := (.seq .leaf (.seq (.cond .leaf .leaf) (.seq (.block none (.seq .leaf (.seq .leaf (.seq .leaf (.cond (.seq .leaf .leaf) .leaf))))) .leaf)))
def JvY (r0 : Qw) : An := (.seq .leaf (.seq (.seq .leaf (.cond (.seq .leaf .leaf) .leaf)) (.seq (.seq .leaf (.block none (.sum Jej N88 r0))) (.seq .leaf .leaf))))
abbrev Jrx := Bool -> Bool -> List PV -> Int -> Int -> OR
abbrev Zb (v2 : List PV) (v4 : Int) := (CV.mk (PV.child 0 (v2.getD v4.toNat PV.top)).int (PV.child (0 + 1) (v2.getD v4.toNat PV.top)).int (PV.child (0 + 1 + 1) (v2.getD v4.toNat PV.top)).str)
def Jaz (f : Nat) (rc : Jrx) (k0 : Int -> OR) (k1 : OR) (v0 v1 : Bool) (v2 : List PV) (v3 v4 : Int) : OR := bif decide (v4 < v3) then bif decide (0 <= v4) && decide (v4 < zi v2.length) && (PV.isSt 113 #[Field.mk "Kind" 3 0 false "" "" 0, Field.mk "N" 3 1 false "" "" 8, Field.mk "S" 9 2 false "" "" 16].size (v2.getD v4.toNat PV.top) && (PV.isInt IntKind.i64 (PV.child 0 (v2.getD v4.toNat PV.top)) && (PV.isInt IntKind.i64 (PV.child (0 + 1) (v2.getD v4.toNat PV.top)) && ((PV.child (0 + 1 + 1) (v2.getD v4.toNat PV.top)).isStr && true)))) && true then bif ckC (Zb v2 v4) != 0 then k0 (ckC (Zb v2 v4)) else rc v0 v1 v2 v3 (IntKind.i64.wrap (v4 + 1)) else none else k1
def Gv (f : Nat) (k0 : Int -> OR) (k1 : OR) : Nat -> Jrx
 | 0 => fun _ _ _ _ _ => none
 | n + 1 => Jaz f (Gv f k0 k1 n) k0 k1
def JaA (k : Kont) := fun x0 => k Ex.ret (Jj Jho N88 [.sc (.int .i64 x0)] [])
def JaB (k : Kont) := k (Ex.exit 0) (Jj Jho N88 [PV.top] [])
def Jlh (f : Nat) (k : Kont) (n : Nat) (v0 v1 : Bool) (v2 : List PV) (v3 v4 : Int) : OR := Jy tau 0 Jej (fun s k => ev tau F88 0 0 Jop (Jrw ) s k) n (Jj Jej N88 [.ro 113 v0 v1 v2, .sc (.int .i64 v3), .sc (.int .i64 v4)] []) (JG tau 0 Jho k)
theorem JvZ (f : Nat) (k : Kont) (n : Nat) : Jlh f k (n + 1) = Jaz f (Jlh f k n) (JaA k) (JaB k) := by kernel_rfl
theorem Joq (f : Nat) (k : Kont) : ∀ n, Jlh f k n = Gv f (JaA k) (JaB k) n
 | 0 => rfl
 | n + 1 => (JvZ f k n).trans (congrArg (fun r => Jaz f r (JaA k) (JaB k)) (Joq f k n))
def Jek (f : Nat) : List PV -> List (Nat × Ent) -> Kont -> OR
 | [.ro 113 v0 v1 v2, .sc (.int .i64 v3),
 .sc (.int .i64 v4)], [], k => Gv f (JaA k) (JaB k) f v0 v1 v2 v3 v4
 | _, _, _ => none
theorem JA3 (f : Nat) : Jg Jop Jrw = [] := by kernel_rfl
theorem JA4 (f : Nat) : (Item.l Jop Jej N88 (Jek f)).Ok tau Try.prog 0 := Ju Jn Jrv Jo (x := Jrw) (nm2 := Jho) (Jk _ _ (by rw [JA3 f]; intro q hq; cases hq)) fun vs hp k res hr => by
 unfold Jek at hr
 split at hr
 · rw [← Joq f] at hr; exact ⟨f, 0, hr⟩
 · cases hr
def g88 (f : Nat) (o_z o_f : Bool) (o : List PV) (k : KR) : OR := bif decide (zi o.length > 40) then k (Res.mk (.sc (.int .i64 4)) [] []) else Gv f (fun x0_0 => k (Res.mk (.sc (.int .i64 x0_0)) [] [])) (k (Res.mk (.sc (.int .i64 0)) [] [])) f o_z o_f o (zi o.length) (0)
theorem e88 (f : Nat) (o_z o_f : Bool) (o : List PV) (k : KR) : JJ tau F88 Try.f88 (Try.f88.body.get!) (JvY (Jek f)) [.ro] 0 [.ro 113 o_z o_f o] [] k = g88 f o_z o_f o k := by kernel_rfl
theorem JL8 (f : Nat) : Jg (Try.f88.body.get!) (JvY (Jek f)) = [.l Jop Jej N88 (Jek f)] := by kernel_rfl
theorem JL9 (f : Nat) : ∀ q ∈ Jg (Try.f88.body.get!) (JvY (Jek f)), q.Ok tau Try.prog 0 := by rw [JL8 f]; exact JL (JA4 f) (fun _ h => nomatch h)
theorem JFE : Try.prog.funcs[88]? = some Try.f88 := by kernel_rfl
theorem JFF : Try.f88.body = some (Try.f88.body.get!) := by kernel_rfl
theorem JA5 : Enters Try.prog 88 := enters_of JFE (by kernel_rfl) JFF
def N59 : Nat := 22
def F59 : Fns := Jt 101 JyM (F0)
theorem Jry : Jq tau Try.prog F59 := (Js).add JA2 JFC
def Jor : Code := Qf (Try.f59.body.get!) [1, 1, 0, 1, 0, 0]
def Jel : Nm := [(0, .any), (3, .any)]
def Jhp : Nm := [(2, .any)]
def Jrz : An := (.seq (.seq .leaf (.cond .leaf .leaf)) (.seq (.block none (.seq .leaf (.seq .leaf (.cond (.seq .leaf .leaf) .leaf)))) .leaf))
def Jv0 (r0 : Qw) : An := (.seq .leaf (.seq (.seq .leaf (.cond (.seq .leaf .leaf) .leaf)) (.seq (.seq .leaf (.block none (.sum Jel N59 r0))) (.seq .leaf .leaf))))
abbrev JrA := Bool -> Bool -> List PV -> Int -> OR
abbrev Zc (v2 : List PV) (v3 : Int) := (CV.mk (PV.child 0 (v2.getD v3.toNat PV.top)).int (PV.child (0 + 1) (v2.getD v3.toNat PV.top)).int (PV.child (0 + 1 + 1) (v2.getD v3.toNat PV.top)).str)
def JaC (f : Nat) (rc : JrA) (k0 : Int -> OR) (k1 : OR) (v0 v1 : Bool) (v2 : List PV) (v3 : Int) : OR := bif decide (v3 < zi v2.length) then bif decide (0 <= v3) && decide (v3 < zi v2.length) && (PV.isSt 113 #[Field.mk "Kind" 3 0 false "" "" 0, Field.mk "N" 3 1 false "" "" 8, Field.mk "S" 9 2 false "" "" 16].size (v2.getD v3.toNat PV.top) && (PV.isInt IntKind.i64 (PV.child 0 (v2.getD v3.toNat PV.top)) && (PV.isInt IntKind.i64 (PV.child (0 + 1) (v2.getD v3.toNat PV.top)) && ((PV.child (0 + 1 + 1) (v2.getD v3.toNat PV.top)).isStr && true)))) && true then bif ckC (Zc v2 v3) != 0 then k0 (ckC (Zc v2 v3)) else rc v0 v1 v2 (IntKind.i64.wrap (v3 + 1)) else none else k1
def Gw (f : Nat) (k0 : Int -> OR) (k1 : OR) : Nat -> JrA
 | 0 => fun _ _ _ _ => none
 | n + 1 => JaC f (Gw f k0 k1 n) k0 k1
def JaD (k : Kont) := fun x0 => k Ex.ret (Jj Jhp N59 [.sc (.int .i64 x0)] [])
def JaE (k : Kont) := k (Ex.exit 0) (Jj Jhp N59 [PV.top] [])
def Jli (f : Nat) (k : Kont) (n : Nat) (v0 v1 : Bool) (v2 : List PV) (v3 : Int) : OR := Jy tau 0 Jel (fun s k => ev tau F59 0 0 Jor (Jrz ) s k) n (Jj Jel N59 [.ro 113 v0 v1 v2, .sc (.int .i64 v3)] []) (JG tau 0 Jhp k)
theorem Jv1 (f : Nat) (k : Kont) (n : Nat) : Jli f k (n + 1) = JaC f (Jli f k n) (JaD k) (JaE k) := by kernel_rfl
theorem Jos (f : Nat) (k : Kont) : ∀ n, Jli f k n = Gw f (JaD k) (JaE k) n
 | 0 => rfl
 | n + 1 => (Jv1 f k n).trans (congrArg (fun r => JaC f r (JaD k) (JaE k)) (Jos f k n))
def Jem (f : Nat) : List PV -> List (Nat × Ent) -> Kont -> OR
 | [.ro 113 v0 v1 v2,
 .sc (.int .i64 v3)], [], k => Gw f (JaD k) (JaE k) f v0 v1 v2 v3
 | _, _, _ => none
theorem JA6 (f : Nat) : Jg Jor Jrz = [] := by kernel_rfl
theorem JA7 (f : Nat) : (Item.l Jor Jel N59 (Jem f)).Ok tau Try.prog 0 := Ju Jn Jry Jo (x := Jrz) (nm2 := Jhp) (Jk _ _ (by rw [JA6 f]; intro q hq; cases hq)) fun vs hp k res hr => by
 unfold Jem at hr
 split at hr
 · rw [← Jos f] at hr; exact ⟨f, 0, hr⟩
 · cases hr
def g59 (f : Nat) (o_z o_f : Bool) (o : List PV) (k : KR) : OR := bif decide (zi o.length > 40) then k (Res.mk (.sc (.int .i64 4)) [] []) else Gw f (fun x0_0 => k (Res.mk (.sc (.int .i64 x0_0)) [] [])) (k (Res.mk (.sc (.int .i64 0)) [] [])) f o_z o_f o (0)
theorem e59 (f : Nat) (o_z o_f : Bool) (o : List PV) (k : KR) : JJ tau F59 Try.f59 (Try.f59.body.get!) (Jv0 (Jem f)) [.ro] 0 [.ro 113 o_z o_f o] [] k = g59 f o_z o_f o k := by kernel_rfl
theorem JMa (f : Nat) : Jg (Try.f59.body.get!) (Jv0 (Jem f)) = [.l Jor Jel N59 (Jem f)] := by kernel_rfl
theorem JMb (f : Nat) : ∀ q ∈ Jg (Try.f59.body.get!) (Jv0 (Jem f)), q.Ok tau Try.prog 0 := by rw [JMa f]; exact JL (JA7 f) (fun _ h => nomatch h)
theorem JFG : Try.prog.funcs[59]? = some Try.f59 := by kernel_rfl
theorem JFH : Try.f59.body = some (Try.f59.body.get!) := by kernel_rfl
theorem JA8 : Enters Try.prog 59 := enters_of JFG (by kernel_rfl) JFH
def isCp : PV -> Bool
 | .st t [.sc (.int .i64 _), .sc (.int .i64 _), .sc (.string _)] => t == 113
 | _ => false
theorem JjG {p : PV} : isCp p = true ↔ ∃ kd n s, p = .st 113 [.sc (.int .i64 kd), .sc (.int .i64 n), .sc (.string s)] := by
 constructor
 · intro h
   unfold isCp at h
   split at h
   · rename_i t kd n s
     obtain rfl : t = 113 := by simpa using h
     exact ⟨kd, n, s, rfl⟩
   · cases h
 · rintro ⟨kd, n, s, rfl⟩; rfl
def cv (p : PV) : CV := ⟨(p.child 0).int, (p.child 1).int, (p.child 2).str⟩
theorem XL {p : PV} (h : isCp p = true) : (PV.isSt 113 #[Field.mk "Kind" 3 0 false "" "" 0, Field.mk "N" 3 1 false "" "" 8, Field.mk "S" 9 2 false "" "" 16].size p && (PV.isInt IntKind.i64 (PV.child 0 p) && (PV.isInt IntKind.i64 (PV.child (0 + 1) p) && ((PV.child (0 + 1 + 1) p).isStr && true)))) = true := by
 obtain ⟨kd, n, s, rfl⟩ := JjG.1 h
 simp [PV.isSt, PV.child, PV.isInt, PV.isStr]
theorem WW {l : List PV} (h : l.all isCp = true) {i : Nat} (hi : i < l.length) : isCp (l.getD i .top) = true := by
 rw [List.getD_eq_getElem?_getD, List.getElem?_eq_getElem hi]
 exact List.all_eq_true.1 h _ (List.getElem_mem hi)
def ckL : List PV -> Int
 | [] => 0
 | p :: r => bif ckC (cv p) == 0 then ckL r else ckC (cv p)
def JqC (l : List PV) : Int := bif decide (zi l.length > 40) then 4 else ckL l
def ckO : List PV -> Int := hid JqC
theorem Jhq (l : List PV) : ckO l = JqC l := by rw [ckO, hid_eq]
def cOk : List PV -> Bool := hid fun l => l.all isCp && Nat.ble l.length 9223372036854775807
theorem Yj {l : List PV} : cOk l = true ↔ l.all isCp = true /\ l.length <= 9223372036854775807 := by
 rw [cOk, hid_eq, Bool.and_eq_true, Nat.ble_eq]
theorem J0 {l : List PV} {i : Nat} (h : i < l.length) : l.drop i = l.getD i .top :: l.drop (i + 1) := by
 rw [List.drop_eq_getElem_cons h]; simp [List.getD_eq_getElem?_getD, h]
theorem JyN (l : List PV) (h1 : l.all isCp = true) (h2 : l.length <= 40) (f : Nat) (k0 : Int -> OR) (k1 : OR) (z fl : Bool) : ∀ (d i n : Nat), i + d = l.length -> d < n ->
  Gv f k0 k1 n z fl l (zi l.length) (i : Int) = bif ckL (l.drop i) == 0 then k1 else k0 (ckL (l.drop i))
 | 0, i, n + 1, hi, hn => by
   rw [List.drop_of_length_le (by omega)]
   simp only [Gv, Jaz, Zb]
   exact Jd (by simp [zi]; omega)
 | d + 1, i, n + 1, hi, hn => by
   have g1 := tI i
   have w1 := wI (i := i) (by omega)
   have hro : (decide (0 <= (i : Int)) && decide ((i : Int) < zi l.length) && (PV.isSt 113 #[Field.mk "Kind" 3 0 false "" "" 0, Field.mk "N" 3 1 false "" "" 8, Field.mk "S" 9 2 false "" "" 16].size (l.getD i PV.top) && (PV.isInt IntKind.i64 (PV.child 0 (l.getD i PV.top)) && (PV.isInt IntKind.i64 (PV.child (0 + 1) (l.getD i PV.top)) && ((PV.child (0 + 1 + 1) (l.getD i PV.top)).isStr && true)))) && true) = true := by
    have hq : (PV.isSt 113 #[Field.mk "Kind" 3 0 false "" "" 0, Field.mk "N" 3 1 false "" "" 8, Field.mk "S" 9 2 false "" "" 16].size (l.getD i PV.top) && (PV.isInt IntKind.i64 (PV.child 0 (l.getD i PV.top)) && (PV.isInt IntKind.i64 (PV.child (0 + 1) (l.getD i PV.top)) && ((PV.child (0 + 1 + 1) (l.getD i PV.top)).isStr && true)))) = true := XL (WW h1 (by omega))
    rw [hq]; simp [zi]; omega
   have hd := J0 (l := l) (i := i) (by omega)
   have hs : CV.mk (PV.child 0 (l.getD i PV.top)).int (PV.child (0 + 1) (l.getD i PV.top)).int (PV.child (0 + 1 + 1) (l.getD i PV.top)).str = cv (l.getD i .top) := rfl
   simp only [Gv, Jaz, Zb, g1, w1, hs]
   refine (Ja (by simp [zi]; omega)).trans ((Ja hro).trans ?_)
   rw [hd]
   cases hc : (ckC (cv (l.getD i .top)) == 0) with
   | true =>
    refine (Jd (by simp only [bne, hc]; rfl)).trans ?_
    rw [JyN l h1 h2 f k0 k1 z fl d (i + 1) n (by omega) (by omega)]
    simp only [ckL, hc, cond_true]
   | false =>
    refine (Ja (by simp only [bne, hc]; rfl)).trans ?_
    simp only [ckL, hc, cond_false]
def Jlj : Jz
 | [.ro 113 z f l], [], k => bif cOk l then k ⟨.sc (.int .i64 (ckO l)), [], []⟩ else none
 | _, _, _ => none
def Jv2 : Sig := { own := [], run := Jlj }
theorem JA9 (z f : Bool) (l : List PV) (h : cOk l = true) (k : KR) : g88 50 z f l k = k ⟨.sc (.int .i64 (ckO l)), [], []⟩ := by
 obtain ⟨h1, h2⟩ := Yj.1 h
 rw [Jhq]
 unfold g88 JqC
 cases hc : decide (zi l.length > 40) with
 | true => rfl
 | false =>
  have hl : l.length <= 40 := by simp only [zi, decide_eq_false_iff_not] at hc; omega
  rw [cond_false, cond_false]
  refine (JyN l h1 hl 50 _ _ z f l.length 0 50 (by omega) (by omega)).trans ?_
  rw [List.drop_zero]
  cases h0 : (ckL l == 0) with
  | true =>
   have : ckL l = 0 := by simpa using h0
   rw [this]; rfl
  | false => rfl
theorem JrB : Jc tau Try.prog 88 Jv2 := Jc.mk' fun xs es k res hl hr => by
 change Jlj xs es k = some res at hr
 unfold Jlj at hr
 split at hr
 · rename_i z f l
   obtain ⟨hc, hr⟩ := Jv hr
   exact J3 Jn Jrv Jo JFE JFF (JvY (Jek 50)) [.ro] 0 0 (JL9 50) hl rfl ((e88 50 z f l k).trans ((JA9 z f l hc k).trans hr))
 · cases hr
theorem JyO (l : List PV) (h1 : l.all isCp = true) (h2 : l.length <= 40) (f : Nat) (k0 : Int -> OR) (k1 : OR) (z fl : Bool) : ∀ (d i n : Nat), i + d = l.length -> d < n ->
  Gw f k0 k1 n z fl l (i : Int) = bif ckL (l.drop i) == 0 then k1 else k0 (ckL (l.drop i))
 | 0, i, n + 1, hi, hn => by
   rw [List.drop_of_length_le (by omega)]
   simp only [Gw, JaC, Zc]
   exact Jd (by simp [zi]; omega)
 | d + 1, i, n + 1, hi, hn => by
   have g1 := tI i
   have w1 := wI (i := i) (by omega)
   have hro : (decide (0 <= (i : Int)) && decide ((i : Int) < zi l.length) && (PV.isSt 113 #[Field.mk "Kind" 3 0 false "" "" 0, Field.mk "N" 3 1 false "" "" 8, Field.mk "S" 9 2 false "" "" 16].size (l.getD i PV.top) && (PV.isInt IntKind.i64 (PV.child 0 (l.getD i PV.top)) && (PV.isInt IntKind.i64 (PV.child (0 + 1) (l.getD i PV.top)) && ((PV.child (0 + 1 + 1) (l.getD i PV.top)).isStr && true)))) && true) = true := by
    have hq : (PV.isSt 113 #[Field.mk "Kind" 3 0 false "" "" 0, Field.mk "N" 3 1 false "" "" 8, Field.mk "S" 9 2 false "" "" 16].size (l.getD i PV.top) && (PV.isInt IntKind.i64 (PV.child 0 (l.getD i PV.top)) && (PV.isInt IntKind.i64 (PV.child (0 + 1) (l.getD i PV.top)) && ((PV.child (0 + 1 + 1) (l.getD i PV.top)).isStr && true)))) = true := XL (WW h1 (by omega))
    rw [hq]; simp [zi]; omega
   have hd := J0 (l := l) (i := i) (by omega)
   have hs : CV.mk (PV.child 0 (l.getD i PV.top)).int (PV.child (0 + 1) (l.getD i PV.top)).int (PV.child (0 + 1 + 1) (l.getD i PV.top)).str = cv (l.getD i .top) := rfl
   simp only [Gw, JaC, Zc, g1, w1, hs]
   refine (Ja (by simp [zi]; omega)).trans ((Ja hro).trans ?_)
   rw [hd]
   cases hc : (ckC (cv (l.getD i .top)) == 0) with
   | true =>
    refine (Jd (by simp only [bne, hc]; rfl)).trans ?_
    rw [JyO l h1 h2 f k0 k1 z fl d (i + 1) n (by omega) (by omega)]
    simp only [ckL, hc, cond_true]
   | false =>
    refine (Ja (by simp only [bne, hc]; rfl)).trans ?_
    simp only [ckL, hc, cond_false]
def Jlk : Jz
 | [.ro 113 z f l], [], k => bif cOk l then k ⟨.sc (.int .i64 (ckO l)), [], []⟩ else none
 | _, _, _ => none
def Jv3 : Sig := { own := [], run := Jlk }
theorem JBa (z f : Bool) (l : List PV) (h : cOk l = true) (k : KR) : g59 50 z f l k = k ⟨.sc (.int .i64 (ckO l)), [], []⟩ := by
 obtain ⟨h1, h2⟩ := Yj.1 h
 rw [Jhq]
 unfold g59 JqC
 cases hc : decide (zi l.length > 40) with
 | true => rfl
 | false =>
  have hl : l.length <= 40 := by simp only [zi, decide_eq_false_iff_not] at hc; omega
  rw [cond_false, cond_false]
  refine (JyO l h1 hl 50 _ _ z f l.length 0 50 (by omega) (by omega)).trans ?_
  rw [List.drop_zero]
  cases h0 : (ckL l == 0) with
  | true =>
   have : ckL l = 0 := by simpa using h0
   rw [this]; rfl
  | false => rfl
theorem JrC : Jc tau Try.prog 59 Jv3 := Jc.mk' fun xs es k res hl hr => by
 change Jlk xs es k = some res at hr
 unfold Jlk at hr
 split at hr
 · rename_i z f l
   obtain ⟨hc, hr⟩ := Jv hr
   exact J3 Jn Jry Jo JFG JFH (Jv0 (Jem 50)) [.ro] 0 0 (JMb 50) hl rfl ((e59 50 z f l k).trans ((JBa z f l hc k).trans hr))
 · cases hr



def F74 : Fns := F0
theorem JBb : Jq tau Try.prog F74 := Js
def JBc : An := (.seq .leaf (.seq .leaf .leaf))
def g74 (f : Nat) (a_D a_U : Int) (k : KR) : OR := bif decide (a_D >= 0) then bif decide (a_D < 3) then bif decide (a_U >= 0) then k (Res.mk (.sc (.bool (decide (a_U < 8)))) [] []) else k (Res.mk (.sc (.bool false)) [] []) else k (Res.mk (.sc (.bool false)) [] []) else k (Res.mk (.sc (.bool false)) [] [])
theorem e74 (f : Nat) (a_D a_U : Int) (k : KR) : JJ tau F74 Try.f74 (Try.f74.body.get!) JBc [.ro] 0 [.st 42 [.sc (.int .i64 a_D), .sc (.int .i64 a_U)]] [] k = g74 f a_D a_U k := by kernel_rfl
theorem JMc (f : Nat) : ∀ q ∈ Jg (Try.f74.body.get!) JBc, q.Ok tau Try.prog 0 := Jw (by kernel_rfl)
theorem JFI : Try.prog.funcs[74]? = some Try.f74 := by kernel_rfl
theorem JFJ : Try.f74.body = some (Try.f74.body.get!) := by kernel_rfl
theorem JFK : Enters Try.prog 74 := enters_of JFI (by kernel_rfl) JFJ
def JrD : Jz
 | [.st 42 [.sc (.int .i64 a_D), .sc (.int .i64 a_U)]], [], k => g74 0 a_D a_U k
 | _, _, _ => none
def s74 : Sig := { own := [], run := JrD }
theorem JMd : Jc tau Try.prog 74 s74 := JO Jn JBb Jo JFI JFJ JBc [.ro] 0 [] JrD (JMc 0) fun xs es k res hr => by
 unfold JrD at hr
 split at hr
 · exact ⟨rfl, 0, (e74 0 _ _  _).trans hr⟩
 · cases hr
def inZ (x m : Int) : Bool := decide (x >= 0) && decide (x <= m)
def Jv4 : List Int -> Bool
 | x :: m :: r => inZ x m && Jv4 r
 | _ => true
def inA : List Int -> Bool := hid Jv4
theorem JBd (l : List Int) : inA l = Jv4 l := by rw [inA, hid_eq]
theorem JjH (a b c d : Int) : inA [a, b, c, d] = (inZ a b && inZ c d) := by rw [JBd]; simp [Jv4]
def Jll : Jz
 | [.st 42 [.sc (.int .i64 a), .sc (.int .i64 b)]], [], k => k ⟨.sc (.bool (inA [a, 2, b, 7])), [], []⟩
 | _, _, _ => none
def JBe : Sig := { own := [], run := Jll }
theorem JyP : Jc tau Try.prog 74 JBe := JMd.of fun xs es k res hr => by
 change Jll xs es k = some res at hr
 unfold Jll at hr
 split at hr
 · rename_i a b
   show g74 0 a b k = some res
   rw [JjH] at hr
   unfold g74
   unfold inZ at hr
   by_cases h1 : a >= 0 <;> by_cases h2 : a < 3 <;> by_cases h3 : b >= 0 <;> by_cases h4 : b < 8 <;> simp [h1, h2, h3, h4, show (a <= 2) ↔ (a < 3) from by omega, show (b <= 7) ↔ (b < 8) from by omega] at hr ⊢ <;> exact hr
 · cases hr
def JFL : Fns := F0
theorem Jv5 : Jq tau Try.prog JFL := Js
def JrE : An := (.seq .leaf (.seq .leaf .leaf))
def JFM (f : Nat) (n most : Int) (k : KR) : OR := bif decide (n >= 0) then k (Res.mk (.sc (.bool (decide (n <= most)))) [] []) else k (Res.mk (.sc (.bool false)) [] [])
theorem JMe (f : Nat) (n most : Int) (k : KR) : JJ tau JFL Try.f122 (Try.f122.body.get!) JrE [.ro] 0 [.sc (.int .i64 n), .sc (.int .i64 most)] [] k = JFM f n most k := by kernel_rfl
theorem JFN (f : Nat) : ∀ q ∈ Jg (Try.f122.body.get!) JrE, q.Ok tau Try.prog 0 := Jw (by kernel_rfl)
theorem JyQ : Try.prog.funcs[122]? = some Try.f122 := by kernel_rfl
theorem JyR : Try.f122.body = some (Try.f122.body.get!) := by kernel_rfl
theorem JyS : Enters Try.prog 122 := enters_of JyQ (by kernel_rfl) JyR
def Jlm : Jz
 | [.sc (.int .i64 n), .sc (.int .i64 most)], [], k => JFM 0 n most k
 | _, _, _ => none
def JBf : Sig := { own := [], run := Jlm }
theorem JyT : Jc tau Try.prog 122 JBf := JO Jn Jv5 Jo JyQ JyR JrE [.ro] 0 [] Jlm (JFN 0) fun xs es k res hr => by
 unfold Jlm at hr
 split at hr
 · exact ⟨rfl, 0, (JMe 0 _ _  _).trans hr⟩
 · cases hr
def JFO : Fns := Jt 122 JBf (F0)
theorem Jv6 : Jq tau Try.prog JFO := (Js).add JyT JyS
def JrF : An := (.seq .leaf (.seq .leaf .leaf))
def JFP (f : Nat) (a_D a_U : Int) (k : KR) : OR := bif decide (a_D >= 0) then bif decide (a_D <= 2) then bif decide (a_U >= 0) then k (Res.mk (.sc (.bool (decide (a_U <= 7)))) [] []) else k (Res.mk (.sc (.bool false)) [] []) else k (Res.mk (.sc (.bool false)) [] []) else k (Res.mk (.sc (.bool false)) [] [])
theorem JMf (f : Nat) (a_D a_U : Int) (k : KR) : JJ tau JFO Try.f121 (Try.f121.body.get!) JrF [.ro] 0 [.st 42 [.sc (.int .i64 a_D), .sc (.int .i64 a_U)]] [] k = JFP f a_D a_U k := by kernel_rfl
theorem JFQ (f : Nat) : ∀ q ∈ Jg (Try.f121.body.get!) JrF, q.Ok tau Try.prog 0 := Jw (by kernel_rfl)
theorem JyU : Try.prog.funcs[121]? = some Try.f121 := by kernel_rfl
theorem JyV : Try.f121.body = some (Try.f121.body.get!) := by kernel_rfl
theorem JFR : Enters Try.prog 121 := enters_of JyU (by kernel_rfl) JyV
def Jln : Jz
 | [.st 42 [.sc (.int .i64 a_D), .sc (.int .i64 a_U)]], [], k => JFP 0 a_D a_U k
 | _, _, _ => none
def JFS : Sig := { own := [], run := Jln }
theorem JFT : Jc tau Try.prog 121 JFS := JO Jn Jv6 Jo JyU JyV JrF [.ro] 0 [] Jln (JFQ 0) fun xs es k res hr => by
 unfold Jln at hr
 split at hr
 · exact ⟨rfl, 0, (JMf 0 _ _  _).trans hr⟩
 · cases hr
def F85 : Fns := Jt 122 JBf (Jt 121 JFS (Jt 88 Jv2 (F0)))
theorem JBg : Jq tau Try.prog F85 := (((Js).add JrB JA5).add JFT JFR).add JyT JyS
def JBh : An := (.seq .leaf (.seq (.seq .leaf (.cond (.seq .leaf .leaf) .leaf)) (.seq (.seq .leaf (.block none (.seq .leaf (.cond (.seq (.seq .leaf (.seq .leaf (.cond (.seq .leaf .leaf) .leaf))) (.seq .leaf (.cond (.seq .leaf .leaf) .leaf))) (.seq (.seq .leaf (.cond .leaf .leaf)) (.cond (.seq .leaf (.cond (.seq .leaf .leaf) .leaf)) (.seq .leaf .leaf))))))) (.seq .leaf .leaf))))
def g85 (f : Nat) (y0 y1 d_Id y2 : Int) (y3 : List PV) (y4 : Int) (y5 y6 : Bool) (d_Op : List PV) (y7 y8 : Int) (k : KR) : OR := bif decide (y0 >= 0) then bif decide (y0 <= 2) then bif decide (y1 >= 0) then bif !decide (y1 <= 7) then k (Res.mk (.sc (.int .i64 1)) [] []) else bif decide (d_Id >= 0) then bif !decide (d_Id <= 1073741824) then k (Res.mk (.sc (.int .i64 1)) [] []) else bif decide (y2 >= 0) then bif !decide (y2 <= 1048576) then k (Res.mk (.sc (.int .i64 1)) [] []) else bif y4 == 1 then bif cOk d_Op then bif ckO d_Op != 0 then k (Res.mk (.sc (.int .i64 (ckO d_Op))) [] []) else bif !(y7 == 0 && (y8 == 0 && true)) then k (Res.mk (.sc (.int .i64 1)) [] []) else k (Res.mk (.sc (.int .i64 0)) [] []) else none else bif y4 == 2 then bif y4 == 2 then bif decide (zi d_Op.length > 0) then k (Res.mk (.sc (.int .i64 1)) [] []) else bif decide (y7 >= 0) then bif decide (y7 <= 2) then bif decide (y8 >= 0) then bif !decide (y8 <= 7) then k (Res.mk (.sc (.int .i64 1)) [] []) else k (Res.mk (.sc (.int .i64 0)) [] []) else k (Res.mk (.sc (.int .i64 1)) [] []) else k (Res.mk (.sc (.int .i64 1)) [] []) else k (Res.mk (.sc (.int .i64 1)) [] []) else k (Res.mk (.sc (.int .i64 3)) [] []) else bif y4 == 3 then bif decide (zi d_Op.length > 0) then k (Res.mk (.sc (.int .i64 1)) [] []) else bif decide (y7 >= 0) then bif decide (y7 <= 2) then bif decide (y8 >= 0) then bif !decide (y8 <= 7) then k (Res.mk (.sc (.int .i64 1)) [] []) else k (Res.mk (.sc (.int .i64 0)) [] []) else k (Res.mk (.sc (.int .i64 1)) [] []) else k (Res.mk (.sc (.int .i64 1)) [] []) else k (Res.mk (.sc (.int .i64 1)) [] []) else k (Res.mk (.sc (.int .i64 3)) [] []) else k (Res.mk (.sc (.int .i64 1)) [] []) else k (Res.mk (.sc (.int .i64 1)) [] []) else k (Res.mk (.sc (.int .i64 1)) [] []) else k (Res.mk (.sc (.int .i64 1)) [] []) else k (Res.mk (.sc (.int .i64 1)) [] [])
theorem e85 (f : Nat) (y0 y1 d_Id y2 : Int) (y3 : List PV) (y4 : Int) (y5 y6 : Bool) (d_Op : List PV) (y7 y8 : Int) (k : KR) : JJ tau F85 Try.f85 (Try.f85.body.get!) JBh [.ro] 0 [.st 53 [.st 42 [.sc (.int .i64 y0), .sc (.int .i64 y1)], .sc (.int .i64 d_Id), .sc (.int .i64 y2), .ar 37 y3, .sc (.int .i64 y4), .ro 113 y5 y6 d_Op, .st 42 [.sc (.int .i64 y7), .sc (.int .i64 y8)]]] [] k = g85 f y0 y1 d_Id y2 y3 y4 y5 y6 d_Op y7 y8 k := by kernel_rfl
theorem JMg (f : Nat) : ∀ q ∈ Jg (Try.f85.body.get!) JBh, q.Ok tau Try.prog 0 := Jw (by kernel_rfl)
theorem JFU : Try.prog.funcs[85]? = some Try.f85 := by kernel_rfl
theorem JFV : Try.f85.body = some (Try.f85.body.get!) := by kernel_rfl
theorem JMh : Enters Try.prog 85 := enters_of JFU (by kernel_rfl) JFV
def JrG : Jz
 | [.st 53 [.st 42 [.sc (.int .i64 y0), .sc (.int .i64 y1)], .sc (.int .i64 d_Id), .sc (.int .i64 y2), .ar 37 y3, .sc (.int .i64 y4), .ro 113 y5 y6 d_Op, .st 42 [.sc (.int .i64 y7), .sc (.int .i64 y8)]]], [], k => g85 0 y0 y1 d_Id y2 y3 y4 y5 y6 d_Op y7 y8 k
 | _, _, _ => none
def s85 : Sig := { own := [], run := JrG }
theorem JMi : Jc tau Try.prog 85 s85 := JO Jn JBg Jo JFU JFV JBh [.ro] 0 [] JrG (JMg 0) fun xs es k res hr => by
 unfold JrG at hr
 split at hr
 · exact ⟨rfl, 0, (e85 0 _ _ _ _ _ _ _ _ _ _ _  _).trans hr⟩
 · cases hr
def F50 : Fns := Jt 74 JBe (Jt 59 Jv3 (F0))
theorem JBi : Jq tau Try.prog F50 := ((Js).add JrC JA8).add JyP JFK
def JBj : An := (.seq .leaf (.seq (.seq .leaf (.cond (.seq .leaf .leaf) .leaf)) (.seq (.seq .leaf (.block none (.seq .leaf (.cond (.seq .leaf (.seq (.seq .leaf (.cond (.seq .leaf .leaf) .leaf)) (.seq .leaf (.cond (.seq .leaf .leaf) .leaf)))) (.seq (.seq .leaf (.cond .leaf .leaf)) (.cond (.seq .leaf (.cond (.seq .leaf .leaf) .leaf)) (.seq .leaf .leaf))))))) (.seq .leaf .leaf))))
def g50 (f : Nat) (y0 y1 d_Id y2 : Int) (y3 : List PV) (y4 : Int) (y5 y6 : Bool) (d_Op : List PV) (y7 y8 : Int) (k : KR) : OR := bif !inA [y0, 2, y1, 7] then k (Res.mk (.sc (.int .i64 1)) [] []) else bif decide (d_Id < 0) then k (Res.mk (.sc (.int .i64 1)) [] []) else bif decide (d_Id > 1073741824) then k (Res.mk (.sc (.int .i64 1)) [] []) else bif decide (y2 < 0) then k (Res.mk (.sc (.int .i64 1)) [] []) else bif decide (y2 > 1048576) then k (Res.mk (.sc (.int .i64 1)) [] []) else bif y4 == 1 then bif cOk d_Op then bif ckO d_Op != 0 then k (Res.mk (.sc (.int .i64 (ckO d_Op))) [] []) else bif !(y7 == 0 && (y8 == 0 && true)) then k (Res.mk (.sc (.int .i64 1)) [] []) else k (Res.mk (.sc (.int .i64 0)) [] []) else none else bif y4 == 2 then bif y4 == 2 then bif decide (zi d_Op.length > 0) then k (Res.mk (.sc (.int .i64 1)) [] []) else bif !inA [y7, 2, y8, 7] then k (Res.mk (.sc (.int .i64 1)) [] []) else k (Res.mk (.sc (.int .i64 0)) [] []) else k (Res.mk (.sc (.int .i64 3)) [] []) else bif y4 == 3 then bif decide (zi d_Op.length > 0) then k (Res.mk (.sc (.int .i64 1)) [] []) else bif !inA [y7, 2, y8, 7] then k (Res.mk (.sc (.int .i64 1)) [] []) else k (Res.mk (.sc (.int .i64 0)) [] []) else k (Res.mk (.sc (.int .i64 3)) [] [])
theorem e50 (f : Nat) (y0 y1 d_Id y2 : Int) (y3 : List PV) (y4 : Int) (y5 y6 : Bool) (d_Op : List PV) (y7 y8 : Int) (k : KR) : JJ tau F50 Try.f50 (Try.f50.body.get!) JBj [.ro] 0 [.st 53 [.st 42 [.sc (.int .i64 y0), .sc (.int .i64 y1)], .sc (.int .i64 d_Id), .sc (.int .i64 y2), .ar 37 y3, .sc (.int .i64 y4), .ro 113 y5 y6 d_Op, .st 42 [.sc (.int .i64 y7), .sc (.int .i64 y8)]]] [] k = g50 f y0 y1 d_Id y2 y3 y4 y5 y6 d_Op y7 y8 k := by kernel_rfl
theorem JMj (f : Nat) : ∀ q ∈ Jg (Try.f50.body.get!) JBj, q.Ok tau Try.prog 0 := Jw (by kernel_rfl)
theorem JFW : Try.prog.funcs[50]? = some Try.f50 := by kernel_rfl
theorem JFX : Try.f50.body = some (Try.f50.body.get!) := by kernel_rfl
theorem JMk : Enters Try.prog 50 := enters_of JFW (by kernel_rfl) JFX
def JrH : Jz
 | [.st 53 [.st 42 [.sc (.int .i64 y0), .sc (.int .i64 y1)], .sc (.int .i64 d_Id), .sc (.int .i64 y2), .ar 37 y3, .sc (.int .i64 y4), .ro 113 y5 y6 d_Op, .st 42 [.sc (.int .i64 y7), .sc (.int .i64 y8)]]], [], k => g50 0 y0 y1 d_Id y2 y3 y4 y5 y6 d_Op y7 y8 k
 | _, _, _ => none
def s50 : Sig := { own := [], run := JrH }
theorem JMl : Jc tau Try.prog 50 s50 := JO Jn JBi Jo JFW JFX JBj [.ro] 0 [] JrH (JMj 0) fun xs es k res hr => by
 unfold JrH at hr
 split at hr
 · exact ⟨rfl, 0, (e50 0 _ _ _ _ _ _ _ _ _ _ _  _).trans hr⟩
 · cases hr





def JFY : Fns := F0
theorem Jv7 : Jq tau Try.prog JFY := Js
def JrI : An := (.seq .leaf (.cond .leaf .leaf))
def JFZ (f : Nat) (y0 y1 : Bool) (r_b : List PV) (r_e e : Int) (k : KR) : OR := bif r_e == 0 then k (Res.mk (.tup []) [.box false 166 (PV.st 166 [.ro 5 y0 y1 r_b, .sc (.int .i64 e)])] []) else k (Res.mk (.tup []) [.box false 166 (PV.st 166 [.ro 5 y0 y1 r_b, .sc (.int .i64 r_e)])] [])
theorem JMm (f : Nat) (y0 y1 : Bool) (r_b : List PV) (r_e e : Int) (k : KR) : JJ tau JFY Try.f107 (Try.f107.body.get!) JrI [] 0 [.ptr 0 [], .sc (.int .i64 e)] [.box false 166 (.st 166 [.ro 5 y0 y1 r_b, .sc (.int .i64 r_e)])] k = JFZ f y0 y1 r_b r_e e k := by kernel_rfl
theorem JF0 (f : Nat) : ∀ q ∈ Jg (Try.f107.body.get!) JrI, q.Ok tau Try.prog 1 := Jw (by kernel_rfl)
theorem JyW : Try.prog.funcs[107]? = some Try.f107 := by kernel_rfl
theorem JyX : Try.f107.body = some (Try.f107.body.get!) := by kernel_rfl
theorem JyY : Enters Try.prog 107 := enters_of JyW (by kernel_rfl) JyX
def Jlo : Jz
 | [.ptr 0 [], .sc (.int .i64 e)], [.box false 166 (.st 166 [.ro 5 y0 y1 r_b, .sc (.int .i64 r_e)])], k => JFZ 0 y0 y1 r_b r_e e k
 | _, _, _ => none
def JBk : Sig := { own := [], run := Jlo }
theorem JyZ : Jc tau Try.prog 107 JBk := JO Jn Jv7 Jo JyW JyX JrI [] 1 [] Jlo (JF0 0) fun xs es k res hr => by
 unfold Jlo at hr
 split at hr
 · exact ⟨rfl, 0, (JMm 0 _ _ _ _ _  _).trans hr⟩
 · cases hr
def JF1 : Fns := Jt 107 JBk (F0)
theorem Jv8 : Jq tau Try.prog JF1 := (Js).add JyZ JyY
def JrJ : An := (.seq .leaf (.seq (.seq .leaf (.cond .leaf .leaf)) (.seq (.seq .leaf (.cond (.seq .leaf .leaf) .leaf)) (.seq .leaf (.seq .leaf (.seq .leaf .leaf))))))
abbrev Jhr (y0 : Bool) (y1 : Bool) (r_b : List PV) (r_e : Int) (n : Int) := (Res.mk (PV.ro 5 y0 (y0 || y1 && false) (List.take n.toNat r_b)) [.box false 166 (PV.st 166 [PV.ro 5 y0 (y0 || y1 && true) (List.drop n.toNat (List.take r_b.length r_b)), PV.sc (.int .i64 r_e)])] [])
def Jv9 (f : Nat) (y0 y1 : Bool) (r_b : List PV) (r_e n : Int) (k : KR) : OR := bif decide (n > zi r_b.length) then bif r_e == 0 then k (Res.mk (.ro 5 true true []) [.box false 166 (PV.st 166 [.ro 5 y0 y1 r_b, .sc (.int .i64 8)])] []) else bif r_e != 0 then k (Res.mk (.ro 5 true true []) [.box false 166 (PV.st 166 [.ro 5 y0 y1 r_b, .sc (.int .i64 r_e)])] []) else bif decide (0 <= n) && true && decide (n.toNat <= r_b.length) && true then bif decide (0 <= n) && true && decide (n.toNat <= r_b.length) && decide (r_b.length <= r_b.length) && true then k (Jhr y0 y1 r_b r_e n) else none else none else bif r_e != 0 then k (Res.mk (.ro 5 true true []) [.box false 166 (PV.st 166 [.ro 5 y0 y1 r_b, .sc (.int .i64 r_e)])] []) else bif decide (0 <= n) && true && decide (n.toNat <= r_b.length) && true then bif decide (0 <= n) && true && decide (n.toNat <= r_b.length) && decide (r_b.length <= r_b.length) && true then k (Jhr y0 y1 r_b r_e n) else none else none
theorem JMn (f : Nat) (y0 y1 : Bool) (r_b : List PV) (r_e n : Int) (k : KR) : JJ tau JF1 Try.f119 (Try.f119.body.get!) JrJ [.ro] 0 [.ptr 0 [], .sc (.int .i64 n)] [.box false 166 (.st 166 [.ro 5 y0 y1 r_b, .sc (.int .i64 r_e)])] k = Jv9 f y0 y1 r_b r_e n k := by kernel_rfl
theorem JF2 (f : Nat) : ∀ q ∈ Jg (Try.f119.body.get!) JrJ, q.Ok tau Try.prog 1 := Jw (by kernel_rfl)
theorem Jy0 : Try.prog.funcs[119]? = some Try.f119 := by kernel_rfl
theorem Jy1 : Try.f119.body = some (Try.f119.body.get!) := by kernel_rfl
theorem Jy2 : Enters Try.prog 119 := enters_of Jy0 (by kernel_rfl) Jy1
def Jlp : Jz
 | [.ptr 0 [], .sc (.int .i64 n)], [.box false 166 (.st 166 [.ro 5 y0 y1 r_b, .sc (.int .i64 r_e)])], k => Jv9 0 y0 y1 r_b r_e n k
 | _, _, _ => none
def JMo : Sig := { own := [], run := Jlp }
theorem JF3 : Jc tau Try.prog 119 JMo := JO Jn Jv8 Jo Jy0 Jy1 JrJ [.ro] 1 [] Jlp (JF2 0) fun xs es k res hr => by
 unfold Jlp at hr
 split at hr
 · exact ⟨rfl, 0, (JMn 0 _ _ _ _ _  _).trans hr⟩
 · cases hr
structure RS where
 b : List PV
 e : Int
def byB (l : List PV) : Bool := l.all fun p => p.isInt .u8 && (decide (0 <= p.int) && decide (p.int < 256))
def WX : List Int -> Int
 | [] => 0
 | x :: r => x + 256 * WX r
def Xy (n : Nat) (s : RS) : Bool := s.e == 0 && Nat.ble n s.b.length
def Qj (n : Nat) (s : RS) : RS := bif Xy n s then ⟨s.b.drop n, 0⟩ else ⟨s.b, bif s.e == 0 then 8 else s.e⟩
def J8 (n : Nat) (s : RS) : List PV := bif Xy n s then s.b.take n else []
def WN (n : Nat) (s : RS) : Int := IntKind.i64.wrap (WX (JD (J8 n s)))
def okS : Nat -> RS -> Bool := hid Xy
def Gc : Nat -> RS -> List PV := hid J8
theorem Jlq (n : Nat) (s : RS) : okS n s = Xy n s := by rw [okS, hid_eq]
theorem Zd (n : Nat) (s : RS) : Gc n s = J8 n s := by rw [Gc, hid_eq]
def Jb : Nat -> RS -> RS := hid Qj
def JA : Nat -> RS -> Int := hid WN
theorem XW (n : Nat) (s : RS) : Jb n s = Qj n s := by rw [Jb, hid_eq]
theorem Ze (n : Nat) (s : RS) : JA n s = WN n s := by rw [JA, hid_eq]
def JjI (s : RS) : RS := Qj (WN 2 s).toNat (Qj 2 s)
def Jc2 (s : RS) : ByteArray := ⟨(JW (J8 (WN 2 s).toNat (Qj 2 s))).toArray⟩
def Qd : RS -> RS := hid JjI
def JT : RS -> ByteArray := hid Jc2
theorem Jdu (s : RS) : Qd s = JjI s := by rw [Qd, hid_eq]
theorem Jhs (s : RS) : JT s = Jc2 s := by rw [JT, hid_eq]
theorem Xz {l : List PV} : byB l = true ↔ Jl .u8 l = true /\ ∀ x ∈ JD l, 0 <= x /\ x < 256 := by
 induction l with
 | nil => simp [byB, Jl, JD]
 | cons p ps ih =>
  have e1 : byB (p :: ps) = ((p.isInt .u8 && (decide (0 <= p.int) && decide (p.int < 256))) && byB ps) := rfl
  have e2 : JD (p :: ps) = p.int :: JD ps := rfl
  have e3 : Jl .u8 (p :: ps) = (p.isInt .u8 && Jl .u8 ps) := rfl
  rw [e1, e2, e3]
  simp only [Bool.and_eq_true, decide_eq_true_eq, List.mem_cons, forall_eq_or_imp, ih]
  constructor
  · rintro ⟨⟨h1, h2⟩, h3, h4⟩
    exact ⟨⟨h1, h3⟩, h2, h4⟩
  · rintro ⟨⟨h1, h3⟩, h2, h4⟩
    exact ⟨⟨h1, h2⟩, h3, h4⟩
theorem JrK {l : List PV} (h : byB l = true) (n : Nat) : byB (l.take n) = true := List.all_eq_true.2 fun p hp => List.all_eq_true.1 h p (List.mem_of_mem_take hp)
theorem JjJ {l : List PV} (h : byB l = true) (n : Nat) : byB (l.drop n) = true := List.all_eq_true.2 fun p hp => List.all_eq_true.1 h p (List.mem_of_mem_drop hp)
theorem Jlr {l : List Int} : byB (pu .u8 l) = true ↔ ∀ x ∈ l, 0 <= x /\ x < 256 := by rw [Xz]; simp
theorem YS {s : RS} (h : byB s.b = true) (n : Nat) : byB (Qj n s).b = true := by
 unfold Qj; cases Xy n s
 · exact h
 · exact JjJ h n
theorem Zf {s : RS} (h : byB s.b = true) (n : Nat) : byB (J8 n s) = true := by
 unfold J8; cases Xy n s
 · rfl
 · exact JrK h n
theorem WY (n : Nat) (s : RS) : (J8 n s).length <= n := by
 unfold J8; cases Xy n s
 · exact Nat.zero_le _
 · simp; omega
theorem Yk : ∀ (l : List Int), (∀ x ∈ l, 0 <= x /\ x < 256) -> 0 <= WX l /\ WX l < 256 ^ l.length
 | [], h => by simp [WX]
 | x :: r, h => by
  have h1 := h x List.mem_cons_self
  have h2 := Yk r fun y hy => h y (List.mem_cons_of_mem _ hy)
  simp only [WX, List.length_cons, Int.pow_succ]
  generalize (256 : Int) ^ r.length = B at *
  omega
theorem XX {s : RS} (h : byB s.b = true) {n : Nat} (hn : n <= 2) : 0 <= WN n s /\ WN n s < 65536 := by
 have h1 := Yk (JD (J8 n s)) (Xz.1 (Zf h n)).2
 have h2 : (JD (J8 n s)).length <= 2 := by rw [QU]; exact Nat.le_trans (WY n s) hn
 have h3 : (256 : Int) ^ (JD (J8 n s)).length <= 65536 := by
  generalize (JD (J8 n s)).length = m at *
  match m, h2 with
  | 0, _ => decide
  | 1, _ => decide
  | 2, _ => decide
 unfold WN
 rw [wrap_i64 (by omega) (by omega)]; omega
structure RT where
 B : List PV
 P : Int
 e : Int
def RT.view (t : RT) : RS := ⟨t.B.drop t.P.toNat, t.e⟩
def okT (t : RT) : Bool := decide (0 <= t.P) && (decide (t.P <= (t.B.length : Int)) && (byB t.B && Nat.ble t.B.length 1000000000))
def QW (n : Nat) (t : RT) : RT := bif Xy n t.view then ⟨t.B, ((t.P.toNat + n : Nat) : Int), 0⟩ else ⟨t.B, t.P, bif t.e == 0 then 8 else t.e⟩
def Jh : Nat -> RT -> RT := hid QW
def Ql : Nat -> RT -> Int := hid fun n t => WN n t.view
def JaF (t : RT) : RT := QW (WN 2 t.view).toNat (QW 2 t)
def QX : RT -> RT := hid JaF
def XY : RT -> ByteArray := hid fun t => Jc2 t.view
theorem Xp (n : Nat) (t : RT) : Jh n t = QW n t := by rw [Jh, hid_eq]
theorem Jdv (n : Nat) (t : RT) : Ql n t = WN n t.view := by rw [Ql, hid_eq]
theorem Jht (t : RT) : QX t = JaF t := by rw [QX, hid_eq]
theorem JjK (t : RT) : XY t = Jc2 t.view := by rw [XY, hid_eq]
theorem YT (n : Nat) (t : RT) : (QW n t).view = Qj n t.view := by
 unfold QW Qj
 cases Xy n t.view with
 | true => simp only [cond_true, RT.view, Int.toNat_natCast, List.drop_drop]
 | false => simp only [cond_false, RT.view]
theorem JrL (t : RT) : (JaF t).view = JjI t.view := by simp only [JaF, JjI, YT]
@[simp] theorem WG (n : Nat) (t : RT) : Ql n t = JA n t.view := by rw [Jdv, Ze]
@[simp] theorem Qm (n : Nat) (t : RT) : (Jh n t).view = Jb n t.view := by rw [Xp, XW, YT]
@[simp] theorem Jgo (t : RT) : (QX t).view = Qd t.view := by rw [Jht, Jdu, JrL]
@[simp] theorem Jgp (t : RT) : XY t = JT t.view := by rw [JjK, Jhs]
theorem Z3 {t : RT} (h : okT t = true) (n : Nat) : okT (QW n t) = true := by
 have h' := h
 simp only [okT, Bool.and_eq_true, decide_eq_true_eq, Nat.ble_eq] at h ⊢
 unfold QW
 cases hk : Xy n t.view with
 | true =>
  simp only [cond_true]
  have hn : n <= (t.B.drop t.P.toNat).length := by
   simp only [Xy, RT.view, Bool.and_eq_true, Nat.ble_eq] at hk; exact hk.2
  rw [List.length_drop] at hn
  refine ⟨by omega, by omega, h.2.2⟩
 | false => exact h
theorem Jwa {t : RT} (h : okT t = true) : okT (JaF t) = true := Z3 (Z3 h _) _
@[simp] theorem QD {t : RT} (h : okT t = true) (n : Nat) : okT (Jh n t) = true := by rw [Xp]; exact Z3 h n
@[simp] theorem JjL {t : RT} (h : okT t = true) : okT (QX t) = true := by rw [Jht]; exact Jwa h
theorem JrM {s : RS} (h : s.e ≠ 0) (n : Nat) : Xy n s = false := by
 unfold Xy
 have : (s.e == 0) = false := by simpa using h
 rw [this]; rfl
theorem JaG {s : RS} (h : s.e ≠ 0) (n : Nat) : Qj n s = s := by
 unfold Qj
 have : (s.e == 0) = false := by simpa using h
 rw [JrM h, cond_false, this, cond_false]
theorem JqD {t : RT} (h : t.e ≠ 0) (n : Nat) : QW n t = t := by
 unfold QW
 have : (t.e == 0) = false := by simpa using h
 rw [JrM (s := t.view) h, cond_false, this, cond_false]
abbrev rdP (z f : Bool) (s : RS) : Ent := .box false 166 (.st 166 [.ro 5 z f s.b, .sc (.int .i64 s.e)])
def Jhu : Jz
 | [.ptr 0 [], .sc (.int .i64 n)], [.box false 166 (.st 166 [.ro 5 z f b, .sc (.int .i64 e)])], k =>
  bif (!z || f) && decide (0 <= n) then k ⟨.ro 5 (!okS n.toNat ⟨b, e⟩ || z) (!okS n.toNat ⟨b, e⟩ || z) (Gc n.toNat ⟨b, e⟩), [rdP z f (Jb n.toNat ⟨b, e⟩)], []⟩ else none
 | _, _, _ => none
def JrN : Sig := { own := [], run := Jhu }
theorem Jwb (z f : Bool) (b : List PV) (e n : Int) (hz : (!z || f) = true) (hn : 0 <= n) (k : KR) :
   Jv9 0 z f b e n k = k ⟨.ro 5 (!okS n.toNat ⟨b, e⟩ || z) (!okS n.toNat ⟨b, e⟩ || z) (Gc n.toNat ⟨b, e⟩), [rdP z f (Jb n.toNat ⟨b, e⟩)], []⟩ := by
 rw [Jlq, Zd, XW]
 have hzf : (z || f) = f := by cases z <;> cases f <;> simp_all
 have hz2 : (z || f && false) = z := by cases z <;> cases f <;> rfl
 unfold Jv9 Jhr
 by_cases c1 : n > zi b.length
 · have hk : Nat.ble n.toNat b.length = false := by
     cases h : Nat.ble n.toNat b.length with
     | false => rfl
     | true => rw [Nat.ble_eq] at h; simp only [zi] at c1; omega
   rw [Ja (by simpa using c1)]
   by_cases c2 : e = 0
   · subst c2
     simp only [beq_self_eq_true, cond_true]
     simp [Xy, J8, Qj, hk]
   · have hb : (e == 0) = false := by simpa using c2
     have hb2 : (e != 0) = true := by simpa using c2
     simp only [hb, hb2, cond_true, cond_false]
     simp [Xy, J8, Qj, hb]
 · rw [Jd (by simpa using c1)]
   by_cases c2 : e = 0
   · subst c2
     have hk : Nat.ble n.toNat b.length = true := by rw [Nat.ble_eq]; simp only [zi] at c1; omega
     have hk' : n.toNat <= b.length := by rw [Nat.ble_eq] at hk; exact hk
     have h00 : ((0 : Int) != 0) = false := by decide
     simp only [h00, cond_false]
     rw [Ja (by simp; omega), Ja (by simp; omega)]
     simp [Xy, J8, Qj, hk, hzf, hz2]
   · have hb : (e == 0) = false := by simpa using c2
     have hb2 : (e != 0) = true := by simpa using c2
     simp only [hb2, cond_true]
     simp [Xy, J8, Qj, hb]
theorem JrO : Jc tau Try.prog 119 JrN := JF3.of fun xs es k res hr => by
 change Jhu xs es k = some res at hr
 unfold Jhu at hr
 split at hr
 · obtain ⟨hc, hr⟩ := Jv hr
   simp only [Bool.and_eq_true, decide_eq_true_eq] at hc
   exact (Jwb _ _ _ _ _ hc.1 hc.2 _).trans hr
 · cases hr
def JrP : Nat := 27
def JBl : Fns := Jt 119 JrN (F0)
theorem Jot : Jq tau Try.prog JBl := (Js).add JrO Jy2
def Jhv : Code := Qf (Try.f118.body.get!) [1, 1, 0, 1, 0, 0]
def JaH : Nm := [(5, .any), (10, .any), (11, .any), (12, .any)]
def Jhw : Nm := [(5, .any)]
def Jls : An := (.seq .leaf (.seq (.cond .leaf .leaf) (.seq (.block none (.seq .leaf .leaf)) .leaf)))
def Jou (r0 : Qw) : An := (.seq .leaf (.seq .leaf (.seq (.seq .leaf (.block none (.sum JaH JrP r0))) (.seq .leaf .leaf))))
abbrev Jov := Int -> Bool -> Bool -> List PV -> Int -> Int -> Bool -> Bool -> List PV -> Int -> OR
def Z4 (f : Nat) (rc : Jov) (k0 : Int -> Bool -> Bool -> List PV -> Int -> OR) (v0 : Int) (v1 v2 : Bool) (v3 : List PV) (v4 v5 : Int) (v6 v7 : Bool) (v8 : List PV) (v9 : Int) : OR := bif decide (v5 < v4) then bif decide (0 <= v5) && decide (v5 < zi v3.length) && PV.isInt IntKind.u8 (v3.getD v5.toNat PV.top) && true then bif decide (0 <= IntKind.i64.wrap (8 * v5)) && true then rc (JM BinOp.or IntKind.u64 v0 (Xv IntKind.u64 (IntKind.u64.wrap (v3.getD v5.toNat PV.top).int) (IntKind.i64.wrap (8 * v5)))) v1 v2 v3 v4 (IntKind.i64.wrap (v5 + 1)) v6 v7 v8 v9 else none else none else k0 v0 v6 v7 v8 v9
def Zg (f : Nat) (k0 : Int -> Bool -> Bool -> List PV -> Int -> OR) : Nat -> Jov
 | 0 => fun _ _ _ _ _ _ _ _ _ _ => none
 | n + 1 => Z4 f (Zg f k0 n) k0
def VM (k : Kont) := fun x0 x1 x2 x3 x4 => k (Ex.exit 0) (Jj Jhw JrP [.sc (.int .u64 x0)] [(0, .box false 166 (PV.st 166 [.ro 5 x1 x2 x3, .sc (.int .i64 x4)]))])
def Jhx (f : Nat) (k : Kont) (n : Nat) (v0 : Int) (v1 v2 : Bool) (v3 : List PV) (v4 v5 : Int) (v6 v7 : Bool) (v8 : List PV) (v9 : Int) : OR := Jy tau 1 JaH (fun s k => ev tau JBl 1 0 Jhv (Jls ) s k) n (Jj JaH JrP [.sc (.int .u64 v0), .ro 5 v1 v2 v3, .sc (.int .i64 v4), .sc (.int .i64 v5)] [(0, .box false 166 (PV.st 166 [.ro 5 v6 v7 v8, .sc (.int .i64 v9)]))]) (JG tau 1 Jhw k)
theorem JrQ (f : Nat) (k : Kont) (n : Nat) : Jhx f k (n + 1) = Z4 f (Jhx f k n) (VM k) := by kernel_rfl
theorem JjM (f : Nat) (k : Kont) : ∀ n, Jhx f k n = Zg f (VM k) n
 | 0 => rfl
 | n + 1 => (JrQ f k n).trans (congrArg (fun r => Z4 f r (VM k)) (JjM f k n))
def Gx (f : Nat) : List PV -> List (Nat × Ent) -> Kont -> OR
 | [.sc (.int .u64 v0), .ro 5 v1 v2 v3, .sc (.int .i64 v4),
 PV.sc
  (Value.int IntKind.i64
   v5)], [(0,
  Ent.box false 166
   (PV.st 166
    [.ro 5 v6 v7 v8,
     PV.sc
      (Value.int IntKind.i64
       v9)]))], k => Zg f (VM k) f v0 v1 v2 v3 v4 v5 v6 v7 v8 v9
 | _, _, _ => none
theorem Jwc (f : Nat) : Jg Jhv Jls = [] := by kernel_rfl
theorem Jwd (f : Nat) : (Item.l Jhv JaH JrP (Gx f)).Ok tau Try.prog 1 := Ju Jn Jot Jo (x := Jls) (nm2 := Jhw) (Jk _ _ (by rw [Jwc f]; intro q hq; cases hq)) fun vs hp k res hr => by
 unfold Gx at hr
 split at hr
 · rw [← JjM f] at hr; exact ⟨f, 0, hr⟩
 · cases hr
def JBm (f : Nat) (y0 y1 : Bool) (r_b : List PV) (r_e n : Int) (k : KR) : OR := bif (!y0 || y1) && decide (0 <= n) then Zg f (fun x0_0 x1_0 x2_0 x3_0 x4_0 => k (Res.mk (.sc (.int .i64 (IntKind.i64.wrap x0_0))) [.box false 166 (PV.st 166 [.ro 5 x1_0 x2_0 x3_0, .sc (.int .i64 x4_0)])] [])) f (0) (!okS n.toNat (RS.mk r_b r_e) || y0) (!okS n.toNat (RS.mk r_b r_e) || y0) (Gc n.toNat (RS.mk r_b r_e)) (zi (Gc n.toNat (RS.mk r_b r_e)).length) (0) y0 y1 ((Jb n.toNat (RS.mk r_b r_e)).b) ((Jb n.toNat (RS.mk r_b r_e)).e) else none
theorem JMp (f : Nat) (y0 y1 : Bool) (r_b : List PV) (r_e n : Int) (k : KR) : JJ tau JBl Try.f118 (Try.f118.body.get!) (Jou (Gx f)) [.ro] 0 [.ptr 0 [], .sc (.int .i64 n)] [.box false 166 (.st 166 [.ro 5 y0 y1 r_b, .sc (.int .i64 r_e)])] k = JBm f y0 y1 r_b r_e n k := by kernel_rfl
theorem JF4 (f : Nat) : Jg (Try.f118.body.get!) (Jou (Gx f)) = [.l Jhv JaH JrP (Gx f)] := by kernel_rfl
theorem JF5 (f : Nat) : ∀ q ∈ Jg (Try.f118.body.get!) (Jou (Gx f)), q.Ok tau Try.prog 1 := by rw [JF4 f]; exact JL (Jwd f) (fun _ h => nomatch h)
theorem Jy3 : Try.prog.funcs[118]? = some Try.f118 := by kernel_rfl
theorem Jy4 : Try.f118.body = some (Try.f118.body.get!) := by kernel_rfl
theorem JrR : Enters Try.prog 118 := enters_of Jy3 (by kernel_rfl) Jy4
theorem Jgq : ∀ (l : List Int) (x : Int), WX (l ++ [x]) = WX l + x * 256 ^ l.length
 | [], x => by simp [WX]
 | y :: r, x => by
  simp only [List.cons_append, WX, Jgq r x, List.length_cons, Int.pow_succ]
  have : x * (256 ^ r.length * 256) = 256 * (x * 256 ^ r.length) := by rw [Int.mul_comm 256, Int.mul_assoc]
  omega
theorem Jlt (i : Nat) : (256 : Int) ^ i = 2 ^ (8 * i) := by rw [Int.pow_mul]; rfl
theorem JjN {v y : Int} {j : Nat} (hj : j <= 64) (hv0 : 0 <= v) (hv : v < 2 ^ j) (hy0 : 0 <= y) (hy : y * 2 ^ j < 2 ^ 64) : JM .or .u64 v (y * 2 ^ j) = v + y * 2 ^ j := by
 obtain ⟨a, rfl⟩ := Int.eq_ofNat_of_zero_le hv0
 obtain ⟨b, rfl⟩ := Int.eq_ofNat_of_zero_le hy0
 have e1 : ((b : Int)) * 2 ^ j = ((b * 2 ^ j : Nat) : Int) := by rw [Int.natCast_mul, Int.natCast_pow]; rfl
 have e2 : ((2 : Int)) ^ j = ((2 ^ j : Nat) : Int) := by rw [Int.natCast_pow]; rfl
 have e3 : ((2 : Int)) ^ 64 = ((2 ^ 64 : Nat) : Int) := by rw [Int.natCast_pow]; rfl
 rw [e2] at hv
 rw [e1, e3] at hy
 have ha : a < 2 ^ j := Int.ofNat_lt.1 hv
 have hb : b * 2 ^ j < 2 ^ 64 := Int.ofNat_lt.1 hy
 rw [e1]
 have hor : a ||| b * 2 ^ j = a + b * 2 ^ j := by
  have h := Nat.shiftLeft_add_eq_or_of_lt ha b
  rw [Nat.shiftLeft_eq] at h
  rw [Nat.or_comm, ← h, Nat.add_comm]
 have ha2 : a < 2 ^ 64 := Nat.lt_of_lt_of_le ha (Nat.pow_le_pow_right (by omega) hj)
 have hsum : a + b * 2 ^ j < 2 ^ 64 := by rw [← hor]; exact Nat.or_lt_two_pow ha2 hb
 generalize hc : b * 2 ^ j = c at *
 have ht : (BitVec.ofInt 64 (a : Int) ||| BitVec.ofInt 64 (c : Int)).toNat = a + c := by
  rw [BitVec.toNat_or, BitVec.ofInt_natCast, BitVec.ofInt_natCast, BitVec.toNat_ofNat, BitVec.toNat_ofNat, Nat.mod_eq_of_lt ha2, Nat.mod_eq_of_lt hb, hor]
 show IntKind.u64.wrap ((BitVec.ofInt 64 (a : Int) ||| BitVec.ofInt 64 (c : Int)).toNat : Int) = _
 rw [ht, QV]
 have h64 : (2 : Nat) ^ 64 = 18446744073709551616 := by decide
 rw [h64] at hsum
 omega
theorem JrS {x : Int} (h0 : 0 <= x) (h1 : x < 256) {i : Nat} (hi : i < 8) : Xv .u64 (IntKind.u64.wrap x) (8 * (i : Int)) = x * 2 ^ (8 * i) := by
 rw [QV, Int.emod_eq_of_lt h0 (by omega), Xv, QV]
 have : min (8 * (i : Int)).toNat IntKind.u64.bits = 8 * i := by
  have : IntKind.u64.bits = 64 := rfl
  rw [this]; omega
 rw [this]
 have hp : (2 : Int) ^ (8 * i) <= 2 ^ 56 := by
  have h : (2 ^ (8 * i) : Nat) <= 2 ^ 56 := Nat.pow_le_pow_right (by omega) (by omega)
  have e2 : ((2 : Int)) ^ (8 * i) = ((2 ^ (8 * i) : Nat) : Int) := by rw [Int.natCast_pow]; rfl
  have e3 : ((2 : Int)) ^ 56 = ((2 ^ 56 : Nat) : Int) := by rw [Int.natCast_pow]; rfl
  rw [e2, e3]; exact Int.ofNat_le.2 h
 have hp0 : (0 : Int) <= 2 ^ (8 * i) := Int.le_of_lt (by
   have e2 : ((2 : Int)) ^ (8 * i) = ((2 ^ (8 * i) : Nat) : Int) := by rw [Int.natCast_pow]; rfl
   rw [e2]; exact Int.ofNat_lt.2 (Nat.two_pow_pos _))
 have h56 : (2 : Int) ^ 56 = 72057594037927936 := by decide
 rw [h56] at hp
 have hm : x * 2 ^ (8 * i) <= 255 * 2 ^ (8 * i) := Int.mul_le_mul_of_nonneg_right (by omega) hp0
 have hm0 : 0 <= x * 2 ^ (8 * i) := Int.mul_nonneg h0 hp0
 exact Int.emod_eq_of_lt hm0 (by omega)
theorem JrT (L : List Int) (hL : ∀ x ∈ L, 0 <= x /\ x < 256) (h8 : L.length <= 8) (f : Nat) (k0 : Int -> Bool -> Bool -> List PV -> Int -> OR) (a b c d : Bool) (R : List PV) (e : Int) : ∀ (dd i n : Nat), i + dd = L.length -> dd < n ->
  Zg f k0 n (WX (L.take i)) a b (pu .u8 L) (L.length : Int) (i : Int) c d R e = k0 (WX L) c d R e
 | 0, i, n + 1, h, hn => by
   obtain rfl : i = L.length := by omega
   simp only [Zg, Z4, List.take_length]
   exact Jd (by simp)
 | dd + 1, i, n + 1, h, hn => by
   have g1 := tI i
   have h1 := wI (i := i) (by omega)
   have h2 : IntKind.i64.wrap (8 * (i : Int)) = 8 * (i : Int) := wrap_i64 (by omega) (by omega)
   have hi : i < L.length := by omega
   have hx := hL (L.getD i 0) (by rw [List.getD_eq_getElem?_getD, List.getElem?_eq_getElem hi]; exact List.getElem_mem hi)
   simp only [Zg, Z4, g1, h1, h2]
   rw [J7 hi, QG hi]
   refine (Ja (by simp; omega)).trans ((Ja (by simp [zi]; omega)).trans ((Ja (by simp; omega)).trans ?_))
   have ht : L.take (i + 1) = L.take i ++ [L.getD i 0] := by
    rw [List.take_add_one, List.getD_eq_getElem?_getD, List.getElem?_eq_getElem hi]; rfl
   have hb := Yk (L.take i) fun x hx => hL x (List.mem_of_mem_take hx)
   have hlen : (L.take i).length = i := by rw [List.length_take]; omega
   rw [hlen, Jlt] at hb
   have hs := JrS hx.1 hx.2 (i := i) (by omega)
   have hlt : L.getD i 0 * 2 ^ (8 * i) < 2 ^ 64 := by
    have hp : (2 : Int) ^ (8 * i) <= 2 ^ 56 := by
     have h : (2 ^ (8 * i) : Nat) <= 2 ^ 56 := Nat.pow_le_pow_right (by omega) (by omega)
     have e2 : ((2 : Int)) ^ (8 * i) = ((2 ^ (8 * i) : Nat) : Int) := by rw [Int.natCast_pow]; rfl
     have e3 : ((2 : Int)) ^ 56 = ((2 ^ 56 : Nat) : Int) := by rw [Int.natCast_pow]; rfl
     rw [e2, e3]; exact Int.ofNat_le.2 h
    have hp0 : (0 : Int) <= 2 ^ (8 * i) := by omega
    have h56 : (2 : Int) ^ 56 = 72057594037927936 := by decide
    have h64 : (2 : Int) ^ 64 = 18446744073709551616 := by decide
    rw [h56] at hp; rw [h64]
    have hm : L.getD i 0 * 2 ^ (8 * i) <= 255 * 2 ^ (8 * i) := Int.mul_le_mul_of_nonneg_right (by omega) hp0
    omega
   rw [hs, JjN (by omega) hb.1 hb.2 hx.1 hlt]
   have hn1 : WX (L.take i) + L.getD i 0 * 2 ^ (8 * i) = WX (L.take (i + 1)) := by
    rw [ht, Jgq, hlen, Jlt]
   rw [hn1]
   exact JrT L hL h8 f k0 a b c d R e dd (i + 1) n (by omega) (by omega)
def Jhy : Jz
 | [.ptr 0 [], .sc (.int .i64 n)], [.box false 166 (.st 166 [.ro 5 z f b, .sc (.int .i64 e)])], k =>
  bif (!z || f) && (decide (0 <= n) && decide (n <= 8)) && byB b then k ⟨.sc (.int .i64 (JA n.toNat ⟨b, e⟩)), [rdP z f (Jb n.toNat ⟨b, e⟩)], []⟩ else none
 | _, _, _ => none
def Jow : Sig := { own := [], run := Jhy }
theorem Jwe (z f : Bool) (b : List PV) (e n : Int) (hz : (!z || f) = true) (hn : 0 <= n) (hn8 : n <= 8) (hb : byB b = true) (k : KR) :
  JBm 20 z f b e n k = k ⟨.sc (.int .i64 (JA n.toNat ⟨b, e⟩)), [rdP z f (Jb n.toNat ⟨b, e⟩)], []⟩ := by
 unfold JBm
 rw [Ja (by rw [hz]; simpa using hn), Ze, Zd]
 have ho : byB (J8 n.toNat ⟨b, e⟩) = true := Zf hb _
 have hoi := Xz.1 ho
 have hl : (JD (J8 n.toNat ⟨b, e⟩)).length <= 8 := by rw [QU]; exact Nat.le_trans (WY _ _) (by omega)
 have hL := JrT (JD (J8 n.toNat ⟨b, e⟩)) hoi.2 hl 20 (fun x0_0 x1_0 x2_0 x3_0 x4_0 => k (Res.mk (.sc (.int .i64 (IntKind.i64.wrap x0_0))) [.box false 166 (.st 166 [.ro 5 x1_0 x2_0 x3_0, .sc (.int .i64 x4_0)])] [])) (!okS n.toNat ⟨b, e⟩ || z) (!okS n.toNat ⟨b, e⟩ || z) z f (Jb n.toNat ⟨b, e⟩).b (Jb n.toNat ⟨b, e⟩).e (JD (J8 n.toNat ⟨b, e⟩)).length 0 20 (by omega) (by omega)
 rw [← QB hoi.1, QU] at hL
 simp only [List.take_zero, WX] at hL
 exact hL
theorem Jlu : Jc tau Try.prog 118 Jow := Jc.mk' fun xs es k res hl hr => by
 change Jhy xs es k = some res at hr
 unfold Jhy at hr
 split at hr
 · rename_i n z f b e
   obtain ⟨hc, hr⟩ := Jv hr
   simp only [Bool.and_eq_true, decide_eq_true_eq] at hc
   exact J3 Jn Jot Jo Jy3 Jy4 (Jou (Gx 20)) [.ro] 1 0 (JF5 20) hl rfl ((JMp 20 z f b e n k).trans ((Jwe z f b e n hc.1.1 hc.1.2.1 hc.1.2.2 hc.2 k).trans hr))
 · cases hr
def F81 : Fns := Jt 118 Jow (F0)
theorem JBn : Jq tau Try.prog F81 := (Js).add Jlu JrR
def JBo : An := (.seq .leaf (.seq .leaf .leaf))
def g81 (f : Nat) (y0 y1 : Bool) (r_b : List PV) (r_e : Int) (k : KR) : OR := bif (!y0 || y1) && true && byB r_b then k (Res.mk (.sc (.int .i64 (JA 8 (RS.mk r_b r_e)))) [.box false 166 (PV.st 166 [.ro 5 y0 y1 (Jb 8 (RS.mk r_b r_e)).b, .sc (.int .i64 (Jb 8 (RS.mk r_b r_e)).e)])] []) else none
theorem e81 (f : Nat) (y0 y1 : Bool) (r_b : List PV) (r_e : Int) (k : KR) : JJ tau F81 Try.f81 (Try.f81.body.get!) JBo [.ro] 0 [.ptr 0 []] [.box false 166 (.st 166 [.ro 5 y0 y1 r_b, .sc (.int .i64 r_e)])] k = g81 f y0 y1 r_b r_e k := by kernel_rfl
theorem JMq (f : Nat) : ∀ q ∈ Jg (Try.f81.body.get!) JBo, q.Ok tau Try.prog 1 := Jw (by kernel_rfl)
theorem JF6 : Try.prog.funcs[81]? = some Try.f81 := by kernel_rfl
theorem JF7 : Try.f81.body = some (Try.f81.body.get!) := by kernel_rfl
theorem JF8 : Enters Try.prog 81 := enters_of JF6 (by kernel_rfl) JF7
def JrU : Jz
 | [.ptr 0 []], [.box false 166 (.st 166 [.ro 5 y0 y1 r_b, .sc (.int .i64 r_e)])], k => g81 0 y0 y1 r_b r_e k
 | _, _, _ => none
def s81 : Sig := { own := [], run := JrU }
theorem JF9 : Jc tau Try.prog 81 s81 := JO Jn JBn Jo JF6 JF7 JBo [.ro] 1 [] JrU (JMq 0) fun xs es k res hr => by
 unfold JrU at hr
 split at hr
 · exact ⟨rfl, 0, (e81 0 _ _ _ _  _).trans hr⟩
 · cases hr
def F82 : Fns := Jt 118 Jow (F0)
theorem JBp : Jq tau Try.prog F82 := (Js).add Jlu JrR
def JBq : An := (.seq .leaf (.seq .leaf .leaf))
def g82 (f : Nat) (y0 y1 : Bool) (r_b : List PV) (r_e : Int) (k : KR) : OR := bif (!y0 || y1) && true && byB r_b then k (Res.mk (.sc (.int .i64 (JA 1 (RS.mk r_b r_e)))) [.box false 166 (PV.st 166 [.ro 5 y0 y1 (Jb 1 (RS.mk r_b r_e)).b, .sc (.int .i64 (Jb 1 (RS.mk r_b r_e)).e)])] []) else none
theorem e82 (f : Nat) (y0 y1 : Bool) (r_b : List PV) (r_e : Int) (k : KR) : JJ tau F82 Try.f82 (Try.f82.body.get!) JBq [.ro] 0 [.ptr 0 []] [.box false 166 (.st 166 [.ro 5 y0 y1 r_b, .sc (.int .i64 r_e)])] k = g82 f y0 y1 r_b r_e k := by kernel_rfl
theorem JMr (f : Nat) : ∀ q ∈ Jg (Try.f82.body.get!) JBq, q.Ok tau Try.prog 1 := Jw (by kernel_rfl)
theorem JGa : Try.prog.funcs[82]? = some Try.f82 := by kernel_rfl
theorem JGb : Try.f82.body = some (Try.f82.body.get!) := by kernel_rfl
theorem JGc : Enters Try.prog 82 := enters_of JGa (by kernel_rfl) JGb
def JrV : Jz
 | [.ptr 0 []], [.box false 166 (.st 166 [.ro 5 y0 y1 r_b, .sc (.int .i64 r_e)])], k => g82 0 y0 y1 r_b r_e k
 | _, _, _ => none
def s82 : Sig := { own := [], run := JrV }
theorem JGd : Jc tau Try.prog 82 s82 := JO Jn JBp Jo JGa JGb JBq [.ro] 1 [] JrV (JMr 0) fun xs es k res hr => by
 unfold JrV at hr
 split at hr
 · exact ⟨rfl, 0, (e82 0 _ _ _ _  _).trans hr⟩
 · cases hr
def F83 : Fns := Jt 119 JrN (Jt 118 Jow (F0))
theorem JBr : Jq tau Try.prog F83 := ((Js).add Jlu JrR).add JrO Jy2
def JBs : An := (.seq .leaf (.seq .leaf (.seq .leaf .leaf)))
def g83 (f : Nat) (y0 y1 : Bool) (r_b : List PV) (r_e : Int) (k : KR) : OR := bif (!y0 || y1) && true && byB r_b then bif (!y0 || y1) && decide (0 <= JA 2 (RS.mk r_b r_e)) then bif Jl IntKind.u8 (Gc (JA 2 (RS.mk r_b r_e)).toNat (Jb 2 (RS.mk r_b r_e))) && true then k (Res.mk (.sc (.string (ByteArray.mk (Array.mk (JW (!okS (JA 2 (RS.mk r_b r_e)).toNat (RS.mk (Jb 2 (RS.mk r_b r_e)).b (Jb 2 (RS.mk r_b r_e)).e) || y0, Gc (JA 2 (RS.mk r_b r_e)).toNat (Jb 2 (RS.mk r_b r_e))).snd))))) [.box false 166 (PV.st 166 [.ro 5 y0 y1 (Jb (JA 2 (RS.mk r_b r_e)).toNat (Jb 2 (RS.mk r_b r_e))).b, .sc (.int .i64 (Jb (JA 2 (RS.mk r_b r_e)).toNat (Jb 2 (RS.mk r_b r_e))).e)])] []) else none else none else none
theorem e83 (f : Nat) (y0 y1 : Bool) (r_b : List PV) (r_e : Int) (k : KR) : JJ tau F83 Try.f83 (Try.f83.body.get!) JBs [.ro] 0 [.ptr 0 []] [.box false 166 (.st 166 [.ro 5 y0 y1 r_b, .sc (.int .i64 r_e)])] k = g83 f y0 y1 r_b r_e k := by kernel_rfl
theorem JMs (f : Nat) : ∀ q ∈ Jg (Try.f83.body.get!) JBs, q.Ok tau Try.prog 1 := Jw (by kernel_rfl)
theorem JGe : Try.prog.funcs[83]? = some Try.f83 := by kernel_rfl
theorem JGf : Try.f83.body = some (Try.f83.body.get!) := by kernel_rfl
theorem JGg : Enters Try.prog 83 := enters_of JGe (by kernel_rfl) JGf
def JrW : Jz
 | [.ptr 0 []], [.box false 166 (.st 166 [.ro 5 y0 y1 r_b, .sc (.int .i64 r_e)])], k => g83 0 y0 y1 r_b r_e k
 | _, _, _ => none
def s83 : Sig := { own := [], run := JrW }
theorem JMt : Jc tau Try.prog 83 s83 := JO Jn JBr Jo JGe JGf JBs [.ro] 1 [] JrW (JMs 0) fun xs es k res hr => by
 unfold JrW at hr
 split at hr
 · exact ⟨rfl, 0, (e83 0 _ _ _ _  _).trans hr⟩
 · cases hr
def Jlv : Jz
 | [.ptr 0 []], [.box false 166 (.st 166 [.ro 5 z f b, .sc (.int .i64 e)])], k =>
  bif (!z || f) && byB b then k ⟨.sc (.string (JT ⟨b, e⟩)), [rdP z f (Qd ⟨b, e⟩)], []⟩ else none
 | _, _, _ => none
def JBt : Sig := { own := [], run := Jlv }
theorem Jy5 : Jc tau Try.prog 83 JBt := JMt.of fun xs es k res hr => by
 change Jlv xs es k = some res at hr
 unfold Jlv at hr
 split at hr
 · rename_i z f b e
   obtain ⟨hc, hr⟩ := Jv hr
   simp only [Bool.and_eq_true] at hc
   show g83 0 z f b e k = some res
   have hn := (XX (s := ⟨b, e⟩) hc.2 (n := 2) (by omega)).1
   have ho := (Xz.1 (Zf (s := Qj 2 ⟨b, e⟩) (YS (s := ⟨b, e⟩) hc.2 2) (WN 2 ⟨b, e⟩).toNat)).1
   unfold g83
   simp only [Ze, XW, Zd]
   rw [Ja (by rw [hc.1, hc.2]; rfl), Ja (by rw [hc.1]; simpa using hn), Ja (by rw [ho]; rfl)]
   rw [Jhs, Jdu] at hr
   exact hr
 · cases hr


def F76 : Fns := F0
theorem JBu : Jq tau Try.prog F76 := Js
def JBv : An := (.seq .leaf (.seq (.seq .leaf (.cond (.seq .leaf .leaf) .leaf)) (.seq .leaf .leaf)))
def g76 (f : Nat) (s_z s_f : Bool) (s : List PV) (k : KR) : OR := bif s_z then k (Res.mk (.ro 5 true true []) [] []) else bif Je (0 + s.length) 1 && true then k (Res.mk (.ro 5 false false (List.take (0 + s.length) s)) [] []) else none
theorem e76 (f : Nat) (s_z s_f : Bool) (s : List PV) (k : KR) : JJ tau F76 Try.f76 (Try.f76.body.get!) JBv [.ro] 0 [.ro 5 s_z s_f s] [] k = g76 f s_z s_f s k := by kernel_rfl
theorem JMu (f : Nat) : ∀ q ∈ Jg (Try.f76.body.get!) JBv, q.Ok tau Try.prog 0 := Jw (by kernel_rfl)
theorem JGh : Try.prog.funcs[76]? = some Try.f76 := by kernel_rfl
theorem JGi : Try.f76.body = some (Try.f76.body.get!) := by kernel_rfl
theorem JMv : Enters Try.prog 76 := enters_of JGh (by kernel_rfl) JGi
def JrX : Jz
 | [.ro 5 s_z s_f s], [], k => g76 0 s_z s_f s k
 | _, _, _ => none
def s76 : Sig := { own := [], run := JrX }
theorem JMw : Jc tau Try.prog 76 s76 := JO Jn JBu Jo JGh JGi JBv [.ro] 0 [] JrX (JMu 0) fun xs es k res hr => by
 unfold JrX at hr
 split at hr
 · exact ⟨rfl, 0, (e76 0 _ _ _  _).trans hr⟩
 · cases hr
def slB (z : Bool) (l : List PV) : Bool := (!z || l.isEmpty) && Nat.ble l.length 1000000000
theorem XA {z : Bool} {l : List PV} : slB z l = true ↔ (z = true -> l = []) /\ l.length <= 1000000000 := by
 simp only [slB, Bool.and_eq_true, Nat.ble_eq, Bool.or_eq_true, Bool.not_eq_true', List.isEmpty_iff]
 cases z <;> simp
def Jlw : Jz
 | [.ro 5 z f l], [], k => bif slB z l then k ⟨.ro 5 z z l, [], []⟩ else none
 | _, _, _ => none
def JGj : Sig := { own := [], run := Jlw }
theorem JGk : Jc tau Try.prog 76 JGj := JMw.of fun xs es k res hr => by
 change Jlw xs es k = some res at hr
 unfold Jlw at hr
 split at hr
 · rename_i z f l
   obtain ⟨hc, hr⟩ := Jv hr
   obtain ⟨h1, h2⟩ := XA.1 hc
   show g76 0 z f l k = some res
   unfold g76
   cases z with
   | true => obtain rfl := h1 rfl; exact hr
   | false =>
    rw [cond_false, Ja (by simp [Je]; omega)]
    simp only [Nat.zero_add, List.nil_append, List.take_length]
    exact hr
 · cases hr


def F94 : Fns := F0
theorem JBw : Jq tau Try.prog F94 := Js
def JBx : An := (.seq .leaf (.seq (.seq .leaf (.cond .leaf .leaf)) (.seq (.seq .leaf (.cond (.seq .leaf .leaf) .leaf)) (.seq .leaf (.seq .leaf .leaf)))))
abbrev Jlx (y0 : Bool) (y1 : Bool) (r_B : List PV) (r_P : Int) (y2 : Int) (n : Int) := (Res.mk (PV.ro 5 y0 (y0 || y1 && false) (List.drop (IntKind.i64.wrap (IntKind.i64.wrap (r_P + n) - n)).toNat (List.take (IntKind.i64.wrap (r_P + n)).toNat r_B))) [.box false 135 (PV.st 135 [PV.ro 5 y0 y1 r_B, PV.sc (.int .i64 (IntKind.i64.wrap (r_P + n))), PV.sc (.int .i64 y2)])] [])
def g94 (f : Nat) (y0 y1 : Bool) (r_B : List PV) (r_P y2 n : Int) (k : KR) : OR := bif y2 == 0 then bif decide (IntKind.i64.wrap (zi r_B.length - r_P) < n) then k (Res.mk (.ro 5 true true []) [.box false 135 (PV.st 135 [.ro 5 y0 y1 r_B, .sc (.int .i64 r_P), .sc (.int .i64 8)])] []) else bif y2 != 0 then k (Res.mk (.ro 5 true true []) [.box false 135 (PV.st 135 [.ro 5 y0 y1 r_B, .sc (.int .i64 r_P), .sc (.int .i64 y2)])] []) else bif decide (0 <= IntKind.i64.wrap (IntKind.i64.wrap (r_P + n) - n)) && decide (0 <= IntKind.i64.wrap (r_P + n)) && decide ((IntKind.i64.wrap (IntKind.i64.wrap (r_P + n) - n)).toNat <= (IntKind.i64.wrap (r_P + n)).toNat) && decide ((IntKind.i64.wrap (r_P + n)).toNat <= r_B.length) && true then k (Jlx y0 y1 r_B r_P y2 n) else none else bif y2 != 0 then k (Res.mk (.ro 5 true true []) [.box false 135 (PV.st 135 [.ro 5 y0 y1 r_B, .sc (.int .i64 r_P), .sc (.int .i64 y2)])] []) else bif decide (0 <= IntKind.i64.wrap (IntKind.i64.wrap (r_P + n) - n)) && decide (0 <= IntKind.i64.wrap (r_P + n)) && decide ((IntKind.i64.wrap (IntKind.i64.wrap (r_P + n) - n)).toNat <= (IntKind.i64.wrap (r_P + n)).toNat) && decide ((IntKind.i64.wrap (r_P + n)).toNat <= r_B.length) && true then k (Jlx y0 y1 r_B r_P y2 n) else none
theorem e94 (f : Nat) (y0 y1 : Bool) (r_B : List PV) (r_P y2 n : Int) (k : KR) : JJ tau F94 Try.f94 (Try.f94.body.get!) JBx [.ro] 0 [.ptr 0 [], .sc (.int .i64 n)] [.box false 135 (.st 135 [.ro 5 y0 y1 r_B, .sc (.int .i64 r_P), .sc (.int .i64 y2)])] k = g94 f y0 y1 r_B r_P y2 n k := by kernel_rfl
theorem JMx (f : Nat) : ∀ q ∈ Jg (Try.f94.body.get!) JBx, q.Ok tau Try.prog 1 := Jw (by kernel_rfl)
theorem JGl : Try.prog.funcs[94]? = some Try.f94 := by kernel_rfl
theorem JGm : Try.f94.body = some (Try.f94.body.get!) := by kernel_rfl
theorem JBy : Enters Try.prog 94 := enters_of JGl (by kernel_rfl) JGm
def JrY : Jz
 | [.ptr 0 [], .sc (.int .i64 n)], [.box false 135 (.st 135 [.ro 5 y0 y1 r_B, .sc (.int .i64 r_P), .sc (.int .i64 y2)])], k => g94 0 y0 y1 r_B r_P y2 n k
 | _, _, _ => none
def s94 : Sig := { own := [], run := JrY }
theorem JMy : Jc tau Try.prog 94 s94 := JO Jn JBw Jo JGl JGm JBx [.ro] 1 [] JrY (JMx 0) fun xs es k res hr => by
 unfold JrY at hr
 split at hr
 · exact ⟨rfl, 0, (e94 0 _ _ _ _ _ _  _).trans hr⟩
 · cases hr
abbrev rfP (z f : Bool) (t : RT) : Ent := .box false 135 (.st 135 [.ro 5 z f t.B, .sc (.int .i64 t.P), .sc (.int .i64 t.e)])
def Jly : Jz
 | [.ptr 0 [], .sc (.int .i64 n)], [.box false 135 (.st 135 [.ro 5 z f B, .sc (.int .i64 P), .sc (.int .i64 e)])], k =>
  bif okT ⟨B, P, e⟩ && (decide (0 <= n) && decide (n <= 1000000000)) then k ⟨.ro 5 (!okS n.toNat (RT.view ⟨B, P, e⟩) || z) (!okS n.toNat (RT.view ⟨B, P, e⟩) || z) (Gc n.toNat (RT.view ⟨B, P, e⟩)), [rfP z f (Jh n.toNat ⟨B, P, e⟩)], []⟩ else none
 | _, _, _ => none
def Jwf : Sig := { own := [], run := Jly }
theorem JBz (z f : Bool) (B : List PV) (P e n : Int) (hk : okT ⟨B, P, e⟩ = true) (hn : 0 <= n) (hn2 : n <= 1000000000) (k : KR) :
   g94 0 z f B P e n k = k ⟨.ro 5 (!okS n.toNat (RT.view ⟨B, P, e⟩) || z) (!okS n.toNat (RT.view ⟨B, P, e⟩) || z) (Gc n.toNat (RT.view ⟨B, P, e⟩)), [rfP z f (Jh n.toNat ⟨B, P, e⟩)], []⟩ := by
 rw [Jlq, Zd, Xp]
 simp only [okT, Bool.and_eq_true, decide_eq_true_eq, Nat.ble_eq] at hk
 obtain ⟨k1, k2, k3, k4⟩ := hk
 have hz2 : (z || f && false) = z := by cases z <;> cases f <;> rfl
 obtain ⟨p, rfl⟩ := Int.eq_ofNat_of_zero_le k1
 obtain ⟨m, rfl⟩ := Int.eq_ofNat_of_zero_le hn
 have w1 : IntKind.i64.wrap (zi B.length - (p : Int)) = ((B.length - p : Nat) : Int) := by simp only [zi]; rw [wrap_i64 (by omega) (by omega)]; omega
 have w2 : IntKind.i64.wrap ((p : Int) + (m : Int)) = ((p + m : Nat) : Int) := by rw [wrap_i64 (by omega) (by omega)]; omega
 have w3 : IntKind.i64.wrap (((p + m : Nat) : Int) - (m : Int)) = (p : Int) := by rw [wrap_i64 (by omega) (by omega)]; omega
 have hdl : (B.drop p).length = B.length - p := List.length_drop
 unfold g94 Jlx
 simp only [w1, w2, w3, Int.toNat_natCast, hz2]
 by_cases c2 : e = 0
 · subst c2
   simp only [beq_self_eq_true, cond_true]
   have h00 : ((0 : Int) != 0) = false := by decide
   by_cases c1 : ((B.length - p : Nat) : Int) < (m : Int)
   · rw [Ja (by simpa using c1)]
     have hb : Nat.ble m (B.length - p) = false := by
      cases h : Nat.ble m (B.length - p) with
      | false => rfl
      | true => rw [Nat.ble_eq] at h; omega
     simp [Xy, J8, QW, RT.view, hb]
   · have hb : Nat.ble m (B.length - p) = true := by rw [Nat.ble_eq]; omega
     simp only [h00, cond_false]
     rw [Jd (by simpa using c1), Ja (by simp; omega)]
     have hd : List.drop p (List.take (p + m) B) = List.take m (List.drop p B) := by rw [List.drop_take]; congr 1; omega
     rw [hd]
     simp [Xy, J8, QW, RT.view, hb]
 · have hb : (e == 0) = false := by simpa using c2
   have hb2 : (e != 0) = true := by simpa using c2
   simp only [hb, hb2, cond_true, cond_false]
   simp [Xy, J8, QW, RT.view, hb]
theorem JrZ : Jc tau Try.prog 94 Jwf := JMy.of fun xs es k res hr => by
 change Jly xs es k = some res at hr
 unfold Jly at hr
 split at hr
 · obtain ⟨hc, hr⟩ := Jv hr
   simp only [Bool.and_eq_true, decide_eq_true_eq] at hc
   exact (JBz _ _ _ _ _ _ hc.1 hc.2.1 hc.2.2 _).trans hr
 · cases hr
def N44 : Nat := 25
def F44 : Fns := Jt 94 Jwf (F0)
theorem Jr0 : Jq tau Try.prog F44 := (Js).add JrZ JBy
def Jox : Code := Qf (Try.f44.body.get!) [1, 1, 1, 0, 1, 0, 0]
def Jen : Nm := [(3, .any), (4, .any), (5, .any)]
def Jlz : Nm := [(3, .any)]
def Jr1 : An := (.seq (.seq .leaf (.cond .leaf .leaf)) (.seq (.block none .leaf) .leaf))
def Jwg (r0 : Qw) : An := (.seq .leaf (.seq .leaf (.seq .leaf (.seq (.seq .leaf (.block none (.sum Jen N44 r0))) (.seq .leaf .leaf)))))
abbrev Jr2 := Int -> Bool -> Bool -> List PV -> Int -> Bool -> Bool -> List PV -> Int -> Int -> OR
def JaI (f : Nat) (rc : Jr2) (k0 : Int -> Bool -> Bool -> List PV -> Int -> Int -> OR) (v0 : Int) (v1 v2 : Bool) (v3 : List PV) (v4 : Int) (v5 v6 : Bool) (v7 : List PV) (v8 v9 : Int) : OR := bif decide (v4 >= 0) then bif decide (0 <= v4) && decide (v4 < zi v3.length) && PV.isInt IntKind.u8 (v3.getD v4.toNat PV.top) && true then rc (JM BinOp.or IntKind.u64 (Xv IntKind.u64 v0 8) (IntKind.u64.wrap (v3.getD v4.toNat PV.top).int)) v1 v2 v3 (IntKind.i64.wrap (v4 - 1)) v5 v6 v7 v8 v9 else none else k0 v0 v5 v6 v7 v8 v9
def Gy (f : Nat) (k0 : Int -> Bool -> Bool -> List PV -> Int -> Int -> OR) : Nat -> Jr2
 | 0 => fun _ _ _ _ _ _ _ _ _ _ => none
 | n + 1 => JaI f (Gy f k0 n) k0
def JaJ (k : Kont) := fun x0 x1 x2 x3 x4 x5 => k (Ex.exit 0) (Jj Jlz N44 [.sc (.int .u64 x0)] [(0, .box false 135 (PV.st 135 [.ro 5 x1 x2 x3, .sc (.int .i64 x4), .sc (.int .i64 x5)]))])
def JlA (f : Nat) (k : Kont) (n : Nat) (v0 : Int) (v1 v2 : Bool) (v3 : List PV) (v4 : Int) (v5 v6 : Bool) (v7 : List PV) (v8 v9 : Int) : OR := Jy tau 1 Jen (fun s k => ev tau F44 1 0 Jox (Jr1 ) s k) n (Jj Jen N44 [.sc (.int .u64 v0), .ro 5 v1 v2 v3, .sc (.int .i64 v4)] [(0, .box false 135 (PV.st 135 [.ro 5 v5 v6 v7, .sc (.int .i64 v8), .sc (.int .i64 v9)]))]) (JG tau 1 Jlz k)
theorem Jwh (f : Nat) (k : Kont) (n : Nat) : JlA f k (n + 1) = JaI f (JlA f k n) (JaJ k) := by kernel_rfl
theorem Joy (f : Nat) (k : Kont) : ∀ n, JlA f k n = Gy f (JaJ k) n
 | 0 => rfl
 | n + 1 => (Jwh f k n).trans (congrArg (fun r => JaI f r (JaJ k)) (Joy f k n))
def Jeo (f : Nat) : List PV -> List (Nat × Ent) -> Kont -> OR
 | [.sc (.int .u64 v0), .ro 5 v1 v2 v3,
 PV.sc
  (Value.int IntKind.i64
   v4)], [(0,
  Ent.box false 135
   (PV.st 135
    [.ro 5 v5 v6 v7, .sc (.int .i64 v8),
     PV.sc
      (Value.int IntKind.i64
       v9)]))], k => Gy f (JaJ k) f v0 v1 v2 v3 v4 v5 v6 v7 v8 v9
 | _, _, _ => none
theorem JBA (f : Nat) : Jg Jox Jr1 = [] := by kernel_rfl
theorem JBB (f : Nat) : (Item.l Jox Jen N44 (Jeo f)).Ok tau Try.prog 1 := Ju Jn Jr0 Jo (x := Jr1) (nm2 := Jlz) (Jk _ _ (by rw [JBA f]; intro q hq; cases hq)) fun vs hp k res hr => by
 unfold Jeo at hr
 split at hr
 · rw [← Joy f] at hr; exact ⟨f, 0, hr⟩
 · cases hr
abbrev Jep (r_B : List PV) (r_P : Int) (y2 : Int) := (RS.mk (List.drop (RT.mk r_B r_P y2).P.toNat (RT.mk r_B r_P y2).B) (RT.mk r_B r_P y2).e)
def g44 (f : Nat) (y0 y1 : Bool) (r_B : List PV) (r_P y2 : Int) (k : KR) : OR := bif okT (RT.mk r_B r_P y2) && true then Gy f (fun x0_0 x1_0 x2_0 x3_0 x4_0 Q6 => k (Res.mk (.sc (.int .i64 (IntKind.i64.wrap x0_0))) [.box false 135 (PV.st 135 [.ro 5 x1_0 x2_0 x3_0, .sc (.int .i64 x4_0), .sc (.int .i64 Q6)])] [])) f (0) (!okS 8 (Jep r_B r_P y2) || y0) (!okS 8 (Jep r_B r_P y2) || y0) (Gc 8 (Jep r_B r_P y2)) (IntKind.i64.wrap (zi (Gc 8 (Jep r_B r_P y2)).length - 1)) y0 y1 ((Jh 8 (RT.mk r_B r_P y2)).B) ((Jh 8 (RT.mk r_B r_P y2)).P) ((Jh 8 (RT.mk r_B r_P y2)).e) else none
theorem e44 (f : Nat) (y0 y1 : Bool) (r_B : List PV) (r_P y2 : Int) (k : KR) : JJ tau F44 Try.f44 (Try.f44.body.get!) (Jwg (Jeo f)) [.ro] 0 [.ptr 0 []] [.box false 135 (.st 135 [.ro 5 y0 y1 r_B, .sc (.int .i64 r_P), .sc (.int .i64 y2)])] k = g44 f y0 y1 r_B r_P y2 k := by kernel_rfl
theorem JMz (f : Nat) : Jg (Try.f44.body.get!) (Jwg (Jeo f)) = [.l Jox Jen N44 (Jeo f)] := by kernel_rfl
theorem JMA (f : Nat) : ∀ q ∈ Jg (Try.f44.body.get!) (Jwg (Jeo f)), q.Ok tau Try.prog 1 := by rw [JMz f]; exact JL (JBB f) (fun _ h => nomatch h)
theorem JGn : Try.prog.funcs[44]? = some Try.f44 := by kernel_rfl
theorem JGo : Try.f44.body = some (Try.f44.body.get!) := by kernel_rfl
theorem JBC : Enters Try.prog 44 := enters_of JGn (by kernel_rfl) JGo
def F46 : Fns := Jt 94 Jwf (F0)
theorem JBD : Jq tau Try.prog F46 := (Js).add JrZ JBy
def JBE : An := (.seq .leaf (.seq .leaf (.seq (.seq .leaf (.cond (.seq .leaf .leaf) .leaf)) (.seq .leaf .leaf))))
abbrev Jeq (r_B : List PV) (r_P : Int) (y2 : Int) := (Gc 1 (RS.mk (List.drop (RT.mk r_B r_P y2).P.toNat (RT.mk r_B r_P y2).B) (RT.mk r_B r_P y2).e))
def g46 (f : Nat) (y0 y1 : Bool) (r_B : List PV) (r_P y2 : Int) (k : KR) : OR := bif okT (RT.mk r_B r_P y2) && true then bif zi (Jeq r_B r_P y2).length == 0 then k (Res.mk (.sc (.int .i64 0)) [.box false 135 (PV.st 135 [.ro 5 y0 y1 (Jh 1 (RT.mk r_B r_P y2)).B, .sc (.int .i64 (Jh 1 (RT.mk r_B r_P y2)).P), .sc (.int .i64 (Jh 1 (RT.mk r_B r_P y2)).e)])] []) else bif decide (0 < zi (Jeq r_B r_P y2).length) && PV.isInt IntKind.u8 ((Jeq r_B r_P y2).getD 0 PV.top) && true then k (Res.mk (.sc (.int .i64 (IntKind.i64.wrap ((Jeq r_B r_P y2).getD 0 PV.top).int))) [.box false 135 (PV.st 135 [.ro 5 y0 y1 (Jh 1 (RT.mk r_B r_P y2)).B, .sc (.int .i64 (Jh 1 (RT.mk r_B r_P y2)).P), .sc (.int .i64 (Jh 1 (RT.mk r_B r_P y2)).e)])] []) else none else none
theorem e46 (f : Nat) (y0 y1 : Bool) (r_B : List PV) (r_P y2 : Int) (k : KR) : JJ tau F46 Try.f46 (Try.f46.body.get!) JBE [.ro] 0 [.ptr 0 []] [.box false 135 (.st 135 [.ro 5 y0 y1 r_B, .sc (.int .i64 r_P), .sc (.int .i64 y2)])] k = g46 f y0 y1 r_B r_P y2 k := by kernel_rfl
theorem JMB (f : Nat) : ∀ q ∈ Jg (Try.f46.body.get!) JBE, q.Ok tau Try.prog 1 := Jw (by kernel_rfl)
theorem JGp : Try.prog.funcs[46]? = some Try.f46 := by kernel_rfl
theorem JGq : Try.f46.body = some (Try.f46.body.get!) := by kernel_rfl
theorem JBF : Enters Try.prog 46 := enters_of JGp (by kernel_rfl) JGq
def Jr3 : Jz
 | [.ptr 0 []], [.box false 135 (.st 135 [.ro 5 y0 y1 r_B, .sc (.int .i64 r_P), .sc (.int .i64 y2)])], k => g46 0 y0 y1 r_B r_P y2 k
 | _, _, _ => none
def s46 : Sig := { own := [], run := Jr3 }
theorem JMC : Jc tau Try.prog 46 s46 := JO Jn JBD Jo JGp JGq JBE [.ro] 1 [] Jr3 (JMB 0) fun xs es k res hr => by
 unfold Jr3 at hr
 split at hr
 · exact ⟨rfl, 0, (e46 0 _ _ _ _ _  _).trans hr⟩
 · cases hr
def F47 : Fns := Jt 94 Jwf (F0)
theorem JBG : Jq tau Try.prog F47 := (Js).add JrZ JBy
def JBH : An := (.seq .leaf (.seq .leaf (.seq (.seq .leaf (.cond (.seq .leaf .leaf) .leaf)) (.seq .leaf .leaf))))
abbrev Z5 (r_B : List PV) (r_P : Int) (y2 : Int) := (Gc 2 (RS.mk (List.drop (RT.mk r_B r_P y2).P.toNat (RT.mk r_B r_P y2).B) (RT.mk r_B r_P y2).e))
abbrev Gz (r_B : List PV) (r_P : Int) (y2 : Int) := (IntKind.i64.wrap ((Z5 r_B r_P y2).getD 0 PV.top).int + IntKind.i64.wrap (256 * IntKind.i64.wrap ((Z5 r_B r_P y2).getD 1 PV.top).int))
abbrev Z6 (r_B : List PV) (r_P : Int) (y2 : Int) := (RT.mk (Jh 2 (RT.mk r_B r_P y2)).B (Jh 2 (RT.mk r_B r_P y2)).P (Jh 2 (RT.mk r_B r_P y2)).e)
abbrev Jhz (r_B : List PV) (r_P : Int) (y2 : Int) := (Jh (IntKind.i64.wrap (Gz r_B r_P y2)).toNat (Jh 2 (RT.mk r_B r_P y2)))
def g47 (f : Nat) (y0 y1 : Bool) (r_B : List PV) (r_P y2 : Int) (k : KR) : OR := bif okT (RT.mk r_B r_P y2) && true then bif zi (Z5 r_B r_P y2).length == 0 then k (Res.mk (.sc (.string (ByteArray.mk (Array.mk [])))) [.box false 135 (PV.st 135 [.ro 5 y0 y1 (Jh 2 (RT.mk r_B r_P y2)).B, .sc (.int .i64 (Jh 2 (RT.mk r_B r_P y2)).P), .sc (.int .i64 (Jh 2 (RT.mk r_B r_P y2)).e)])] []) else bif decide (0 < zi (Z5 r_B r_P y2).length) && PV.isInt IntKind.u8 ((Z5 r_B r_P y2).getD 0 PV.top) && true then bif decide (1 < zi (Z5 r_B r_P y2).length) && PV.isInt IntKind.u8 ((Z5 r_B r_P y2).getD 1 PV.top) && true then bif okT (Jh 2 (RT.mk r_B r_P y2)) && (decide (0 <= IntKind.i64.wrap (Gz r_B r_P y2)) && decide (IntKind.i64.wrap (Gz r_B r_P y2) <= 1000000000)) then bif Jl IntKind.u8 (Gc (IntKind.i64.wrap (Gz r_B r_P y2)).toNat (RS.mk (List.drop (Z6 r_B r_P y2).P.toNat (Z6 r_B r_P y2).B) (Z6 r_B r_P y2).e)) && true then k (Res.mk (.sc (.string (ByteArray.mk (Array.mk (JW (!okS (IntKind.i64.wrap (Gz r_B r_P y2)).toNat (Z6 r_B r_P y2).view || y0, Gc (IntKind.i64.wrap (Gz r_B r_P y2)).toNat (RS.mk (List.drop (Z6 r_B r_P y2).P.toNat (Z6 r_B r_P y2).B) (Z6 r_B r_P y2).e)).snd))))) [.box false 135 (PV.st 135 [.ro 5 y0 y1 (Jhz r_B r_P y2).B, .sc (.int .i64 (Jhz r_B r_P y2).P), .sc (.int .i64 (Jhz r_B r_P y2).e)])] []) else none else none else none else none else none
theorem e47 (f : Nat) (y0 y1 : Bool) (r_B : List PV) (r_P y2 : Int) (k : KR) : JJ tau F47 Try.f47 (Try.f47.body.get!) JBH [.ro] 0 [.ptr 0 []] [.box false 135 (.st 135 [.ro 5 y0 y1 r_B, .sc (.int .i64 r_P), .sc (.int .i64 y2)])] k = g47 f y0 y1 r_B r_P y2 k := by kernel_rfl
theorem JMD (f : Nat) : ∀ q ∈ Jg (Try.f47.body.get!) JBH, q.Ok tau Try.prog 1 := Jw (by kernel_rfl)
theorem JGr : Try.prog.funcs[47]? = some Try.f47 := by kernel_rfl
theorem JGs : Try.f47.body = some (Try.f47.body.get!) := by kernel_rfl
theorem JGt : Enters Try.prog 47 := enters_of JGr (by kernel_rfl) JGs
def Jr4 : Jz
 | [.ptr 0 []], [.box false 135 (.st 135 [.ro 5 y0 y1 r_B, .sc (.int .i64 r_P), .sc (.int .i64 y2)])], k => g47 0 y0 y1 r_B r_P y2 k
 | _, _, _ => none
def s47 : Sig := { own := [], run := Jr4 }
theorem JME : Jc tau Try.prog 47 s47 := JO Jn JBG Jo JGr JGs JBH [.ro] 1 [] Jr4 (JMD 0) fun xs es k res hr => by
 unfold Jr4 at hr
 split at hr
 · exact ⟨rfl, 0, (e47 0 _ _ _ _ _  _).trans hr⟩
 · cases hr
theorem JfX (k : IntKind) (x y : Int) : JM .or k x y = JM .or k y x := by simp only [JM]; rw [BitVec.or_comm]
theorem Jy6 (L : List Int) (hL : ∀ x ∈ L, 0 <= x /\ x < 256) (h8 : L.length <= 8) (f : Nat) (k0 : Int -> Bool -> Bool -> List PV -> Int -> Int -> OR) (a b c d : Bool) (R : List PV) (P e : Int) : ∀ (i n : Nat), i <= L.length -> i < n ->
  Gy f k0 n (WX (L.drop i)) a b (pu .u8 L) ((i : Int) - 1) c d R P e = k0 (WX L) c d R P e
 | 0, n + 1, h, hn => by
   simp only [Gy, JaI, List.drop_zero]
   exact Jd (by decide)
 | i + 1, n + 1, h, hn => by
   have g0 : ((i + 1 : Nat) : Int) - 1 = (i : Int) := by omega
   have g1 := tI i
   have h1 : IntKind.i64.wrap ((i : Int) - 1) = (i : Int) - 1 := wrap_i64 (by omega) (by omega)
   have hi : i < L.length := by omega
   have hx := hL (L.getD i 0) (by rw [List.getD_eq_getElem?_getD, List.getElem?_eq_getElem hi]; exact List.getElem_mem hi)
   rw [g0]
   simp only [Gy, JaI, g1, h1]
   rw [J7 hi, QG hi]
   refine (Ja (by simp)).trans ((Ja (by simp [zi]; omega)).trans ?_)
   have hd : L.drop i = L.getD i 0 :: L.drop (i + 1) := by
    rw [List.drop_eq_getElem_cons hi, List.getD_eq_getElem?_getD, List.getElem?_eq_getElem hi]; rfl
   have hb := Yk (L.drop (i + 1)) fun x hx => hL x (List.mem_of_mem_drop hx)
   have hp : (256 : Int) ^ (L.drop (i + 1)).length <= 2 ^ 56 := by
    rw [Jlt]
    have h : (2 ^ (8 * (L.drop (i + 1)).length) : Nat) <= 2 ^ 56 := Nat.pow_le_pow_right (by omega) (by rw [List.length_drop]; omega)
    have e2 : ((2 : Int)) ^ (8 * (L.drop (i + 1)).length) = ((2 ^ (8 * (L.drop (i + 1)).length) : Nat) : Int) := by rw [Int.natCast_pow]; rfl
    have e3 : ((2 : Int)) ^ 56 = ((2 ^ 56 : Nat) : Int) := by rw [Int.natCast_pow]; rfl
    rw [e2, e3]; exact Int.ofNat_le.2 h
   have h56 : (2 : Int) ^ 56 = 72057594037927936 := by decide
   rw [h56] at hp
   have hsh : Xv .u64 (WX (L.drop (i + 1))) 8 = WX (L.drop (i + 1)) * 2 ^ 8 := by
    rw [Xv, QV]
    have : min (8 : Int).toNat IntKind.u64.bits = 8 := by decide
    rw [this]
    have h8 : (2 : Int) ^ 8 = 256 := by decide
    rw [h8]; omega
   have hw : IntKind.u64.wrap (L.getD i 0) = L.getD i 0 := by rw [QV]; omega
   have h8 : (2 : Int) ^ 8 = 256 := by decide
   have h64 : (2 : Int) ^ 64 = 18446744073709551616 := by decide
   rw [hsh, hw, JfX, JjN (by omega) hx.1 (by rw [h8]; exact hx.2) hb.1 (by rw [h8, h64]; omega)]
   have hn1 : L.getD i 0 + WX (L.drop (i + 1)) * 2 ^ 8 = WX (L.drop i) := by rw [hd, WX, h8]; omega
   rw [hn1]
   exact Jy6 L hL (by assumption) f k0 a b c d R P e i n (by omega) (by omega)
def JlB : Jz
 | [.ptr 0 []], [.box false 135 (.st 135 [.ro 5 z f B, .sc (.int .i64 P), .sc (.int .i64 e)])], k =>
  bif okT ⟨B, P, e⟩ then k ⟨.sc (.int .i64 (Ql 8 ⟨B, P, e⟩)), [rfP z f (Jh 8 ⟨B, P, e⟩)], []⟩ else none
 | _, _, _ => none
def Jwi : Sig := { own := [], run := JlB }
theorem JaK {t : RT} (h : okT t = true) : byB t.view.b = true := by
 simp only [okT, Bool.and_eq_true] at h
 exact JjJ h.2.2.1 _
theorem Jwj (B : List PV) (P e : Int) : RS.mk (List.drop (RT.mk B P e).P.toNat (RT.mk B P e).B) (RT.mk B P e).e = RT.view ⟨B, P, e⟩ := rfl
theorem Jr5 : Jc tau Try.prog 44 Jwi := Jc.mk' fun xs es k res hl hr => by
 change JlB xs es k = some res at hr
 unfold JlB at hr
 split at hr
 · rename_i z f B P e
   obtain ⟨hc, hr⟩ := Jv hr
   have hg : g44 20 z f B P e k = some res := by
    unfold g44 Jep
    have hb := JaK hc
    have ho := Xz.1 (Zf (s := RT.view ⟨B, P, e⟩) hb 8)
    have hl8 : (JD (J8 8 (RT.view ⟨B, P, e⟩))).length <= 8 := by rw [QU]; exact WY _ _
    have hw : IntKind.i64.wrap (zi (J8 8 (RT.view ⟨B, P, e⟩)).length - 1) = ((J8 8 (RT.view ⟨B, P, e⟩)).length : Int) - 1 := by
     have := WY 8 (RT.view ⟨B, P, e⟩)
     simp only [zi]; rw [wrap_i64 (by omega) (by omega)]
    rw [Ja (by rw [hc]; rfl), Jwj, Zd, hw]
    have hL := Jy6 (JD (J8 8 (RT.view ⟨B, P, e⟩))) ho.2 hl8 20 (fun x0_0 x1_0 x2_0 x3_0 x4_0 Q6 => k (Res.mk (.sc (.int .i64 (IntKind.i64.wrap x0_0))) [.box false 135 (.st 135 [.ro 5 x1_0 x2_0 x3_0, .sc (.int .i64 x4_0), .sc (.int .i64 Q6)])] [])) (!okS 8 (RT.view ⟨B, P, e⟩) || z) (!okS 8 (RT.view ⟨B, P, e⟩) || z) z f (Jh 8 ⟨B, P, e⟩).B (Jh 8 ⟨B, P, e⟩).P (Jh 8 ⟨B, P, e⟩).e (JD (J8 8 (RT.view ⟨B, P, e⟩))).length 20 (by omega) (by omega)
    rw [← QB ho.1, List.drop_length, QU] at hL
    simp only [WX] at hL
    refine hL.trans ?_
    rw [Jdv] at hr
    exact hr
   exact J3 Jn Jr0 Jo JGn JGo (Jwg (Jeo 20)) [.ro] 1 0 (JMA 20) hl rfl ((e44 20 z f B P e k).trans hg)
 · cases hr
def JlC : Jz
 | [.ptr 0 []], [.box false 135 (.st 135 [.ro 5 z f B, .sc (.int .i64 P), .sc (.int .i64 e)])], k =>
  bif okT ⟨B, P, e⟩ then k ⟨.sc (.int .i64 (Ql 1 ⟨B, P, e⟩)), [rfP z f (Jh 1 ⟨B, P, e⟩)], []⟩ else none
 | _, _, _ => none
def Jwk : Sig := { own := [], run := JlC }
theorem Jr6 : Jc tau Try.prog 46 Jwk := JMC.of fun xs es k res hr => by
 change JlC xs es k = some res at hr
 unfold JlC at hr
 split at hr
 · rename_i z f B P e
   obtain ⟨hc, hr⟩ := Jv hr
   show g46 0 z f B P e k = some res
   unfold g46 Jeq
   have hb := JaK hc
   have hv : RT.view ⟨B, P, e⟩ = ⟨List.drop P.toNat B, e⟩ := rfl
   rw [hv] at hb
   have ho := Xz.1 (Zf hb 1)
   have hl := WY 1 ⟨List.drop P.toNat B, e⟩
   rw [Jdv, WN, hv] at hr
   simp only [Zd]
   rw [Ja (by rw [hc]; rfl)]
   generalize J8 1 ⟨List.drop P.toNat B, e⟩ = O at *
   match O, hl with
   | [], _ => exact hr
   | [p], _ =>
    have h1 : p.isInt .u8 = true := by simpa [Jl] using ho.1
    have h2 := ho.2 p.int (by simp [JD])
    refine (Jd rfl).trans ((Ja (by simp [zi, h1])).trans ?_)
    have : WX (JD [p]) = p.int := by simp [JD, WX]
    rw [this] at hr
    exact hr
 · cases hr
def JlD : Jz
 | [.ptr 0 []], [.box false 135 (.st 135 [.ro 5 z f B, .sc (.int .i64 P), .sc (.int .i64 e)])], k =>
  bif okT ⟨B, P, e⟩ then k ⟨.sc (.string (XY ⟨B, P, e⟩)), [rfP z f (QX ⟨B, P, e⟩)], []⟩ else none
 | _, _, _ => none
def JBI : Sig := { own := [], run := JlD }
theorem Jy7 : Jc tau Try.prog 47 JBI := JME.of fun xs es k res hr => by
 change JlD xs es k = some res at hr
 unfold JlD at hr
 split at hr
 · rename_i z f B P e
   obtain ⟨hc, hr⟩ := Jv hr
   show g47 0 z f B P e k = some res
   unfold g47 Jhz Z6 Gz Z5
   have hb := JaK hc
   have hv : RT.view ⟨B, P, e⟩ = ⟨List.drop P.toNat B, e⟩ := rfl
   rw [hv] at hb
   rw [JjK, Jht] at hr
   have hk2 : okT (Jh 2 ⟨B, P, e⟩) = true := QD hc 2
   have hv2 : ∀ t : RT, RS.mk (List.drop t.P.toNat t.B) t.e = t.view := fun t => rfl
   have hst : (QW 2 ⟨B, P, e⟩).view = Qj 2 ⟨List.drop P.toNat B, e⟩ := YT 2 ⟨B, P, e⟩
   rw [Ja (by rw [hc]; rfl)]
   simp only [Zd, Jlq]
   cases hk : Xy 2 ⟨List.drop P.toNat B, e⟩ with
   | false =>
    have hO : J8 2 ⟨List.drop P.toNat B, e⟩ = [] := by unfold J8; rw [hk]; rfl
    have hN : WN 2 ⟨List.drop P.toNat B, e⟩ = 0 := by unfold WN; rw [hO]; rfl
    have he : (Qj 2 ⟨List.drop P.toNat B, e⟩).e ≠ 0 := by
      unfold Qj; rw [hk]
      by_cases h0 : e = 0
      · subst h0; show (8 : Int) ≠ 0; decide
      · have : (e == 0) = false := by simpa using h0
        simp only [cond_false, this]; exact h0
    have hnk : Xy 0 (Qj 2 ⟨List.drop P.toNat B, e⟩) = false := by
      unfold Xy
      have : ((Qj 2 ⟨List.drop P.toNat B, e⟩).e == 0) = false := by simpa using he
      rw [this]; rfl
    have h1 : Jc2 (RT.view ⟨B, P, e⟩) = ByteArray.mk (Array.mk []) := by
      rw [hv]; unfold Jc2; rw [hN]
      have : J8 (0 : Int).toNat (Qj 2 ⟨List.drop P.toNat B, e⟩) = [] := by
        show J8 0 _ = []
        unfold J8; rw [hnk]; rfl
      rw [this]; rfl
    have h2 : JaF ⟨B, P, e⟩ = QW 2 ⟨B, P, e⟩ := by
      unfold JaF; rw [hv, hN]
      rw [← hst] at he
      exact JqD he _
    rw [h1, h2] at hr
    rw [hO]
    refine (Ja rfl).trans ?_
    rw [Xp]
    exact hr
   | true =>
    have hO : J8 2 ⟨List.drop P.toNat B, e⟩ = List.take 2 (List.drop P.toNat B) := by unfold J8; rw [hk]; rfl
    have hlen : 2 <= (List.drop P.toNat B).length := by
      simp only [Xy, Bool.and_eq_true, Nat.ble_eq] at hk; exact hk.2
    obtain ⟨p, q, hpq⟩ : ∃ p q, J8 2 ⟨List.drop P.toNat B, e⟩ = [p, q] := by
      rw [hO]
      match h : List.drop P.toNat B, hlen with
      | p :: q :: r, _ => exact ⟨p, q, rfl⟩
    have ho := Xz.1 (Zf hb 2)
    rw [hpq] at ho
    have hp1 : p.isInt .u8 = true /\ q.isInt .u8 = true := by simpa [Jl] using ho.1
    have hp2 := ho.2 p.int (by simp [JD])
    have hq2 := ho.2 q.int (by simp [JD])
    have hw : IntKind.i64.wrap (IntKind.i64.wrap p.int + IntKind.i64.wrap (256 * IntKind.i64.wrap q.int)) = p.int + 256 * q.int := by
      rw [wrap_i64 (x := p.int) (by omega) (by omega), wrap_i64 (x := q.int) (by omega) (by omega), wrap_i64 (x := 256 * q.int) (by omega) (by omega), wrap_i64 (by omega) (by omega)]
    have hN : WN 2 ⟨List.drop P.toNat B, e⟩ = p.int + 256 * q.int := by
      unfold WN; rw [hpq]
      show IntKind.i64.wrap (WX [p.int, q.int]) = _
      simp only [WX]
      rw [wrap_i64 (by omega) (by omega)]; omega
    have g0 : ([p, q] : List PV).getD 0 PV.top = p := rfl
    have g1 : ([p, q] : List PV).getD 1 PV.top = q := rfl
    simp only [hpq, g0, g1, hw]
    refine (Jd rfl).trans ((Ja (by simp [zi, hp1.1])).trans ((Ja (by simp [zi, hp1.2])).trans ((Ja ?_).trans ?_)))
    · rw [hk2]; simp; omega
    have h1 : Jc2 (RT.view ⟨B, P, e⟩) = ⟨(JW (J8 (p.int + 256 * q.int).toNat (Jh 2 ⟨B, P, e⟩).view)).toArray⟩ := by
      rw [hv]; unfold Jc2; rw [hN, Xp, hst]
    have h2 : JaF ⟨B, P, e⟩ = Jh (p.int + 256 * q.int).toNat (Jh 2 ⟨B, P, e⟩) := by
      unfold JaF; rw [hv, hN, Xp, Xp]
    have hbo : Jl .u8 (J8 (p.int + 256 * q.int).toNat (Jh 2 ⟨B, P, e⟩).view) = true := (Xz.1 (Zf (JaK hk2) _)).1
    rw [h1, h2] at hr
    refine (Ja (by rw [Bool.and_true]; exact hbo)).trans ?_
    exact hr
 · cases hr
def N45 : Nat := 16
def F45 : Fns := Jt 46 Jwk (F0)
theorem Jr7 : Jq tau Try.prog F45 := (Js).add Jr6 JBF
def Joz : Code := Qf (Try.f45.body.get!) [1, 1, 0, 1, 0, 0]
def Jer : Nm := [(0, .any), (2, .any), (3, .any), (4, .any)]
def JlE : Nm := [(2, .any), (3, .any)]
def Jr8 : An := (.seq (.seq .leaf (.cond .leaf .leaf)) (.seq (.block none .leaf) .leaf))
def Jwl (r0 : Qw) : An := (.seq .leaf (.seq .leaf (.seq (.seq .leaf (.block none (.sum Jer N45 r0))) (.seq .leaf .leaf))))
abbrev Jr9 := Int -> Bool -> Bool -> List PV -> Int -> Int -> List PV -> List PV -> OR
def JaL (f : Nat) (rc : Jr9) (k0 : Bool -> Bool -> List PV -> Int -> Int -> List PV -> List PV -> OR) (v0 : Int) (v1 v2 : Bool) (v3 : List PV) (v4 v5 : Int) (v6 v7 : List PV) : OR := bif decide (v0 < 32) then bif okT (RT.mk v3 v4 v5) then bif decide (0 <= v0) && decide (v0 < zi 32) && true then rc (IntKind.i64.wrap (v0 + 1)) v1 v2 ((Jh 1 (RT.mk v3 v4 v5)).B) ((Jh 1 (RT.mk v3 v4 v5)).P) ((Jh 1 (RT.mk v3 v4 v5)).e) v6 (v7.set v0.toNat (.sc (.int .u8 (IntKind.u8.wrap (Ql 1 (RT.mk v3 v4 v5)))))) else none else none else k0 v1 v2 v3 v4 v5 v6 v7
def GA (f : Nat) (k0 : Bool -> Bool -> List PV -> Int -> Int -> List PV -> List PV -> OR) : Nat -> Jr9
 | 0 => fun _ _ _ _ _ _ _ _ => none
 | n + 1 => JaL f (GA f k0 n) k0
def JaM (k : Kont) := fun x0 x1 x2 x3 x4 x5 x6 => k (Ex.exit 0) (Jj JlE N45 [.ptr 273 [], .ptr 274 []] [(0, .box false 135 (PV.st 135 [.ro 5 x0 x1 x2, .sc (.int .i64 x3), .sc (.int .i64 x4)])), (273, .box false 37 (PV.ar 37 x5)), (274, .box false 37 (PV.ar 37 x6))])
def JlF (f : Nat) (k : Kont) (n : Nat) (v0 : Int) (v1 v2 : Bool) (v3 : List PV) (v4 v5 : Int) (v6 v7 : List PV) : OR := Jy tau 1 Jer (fun s k => ev tau F45 1 0 Joz (Jr8 ) s k) n (Jj Jer N45 [.ptr 0 [], .ptr 273 [], .ptr 274 [], .sc (.int .i64 v0)] [(0, .box false 135 (PV.st 135 [.ro 5 v1 v2 v3, .sc (.int .i64 v4), .sc (.int .i64 v5)])), (273, .box false 37 (PV.ar 37 v6)), (274, .box false 37 (PV.ar 37 v7))]) (JG tau 1 JlE k)
theorem Jwm (f : Nat) (k : Kont) (n : Nat) : JlF f k (n + 1) = JaL f (JlF f k n) (JaM k) := by kernel_rfl
theorem JoA (f : Nat) (k : Kont) : ∀ n, JlF f k n = GA f (JaM k) n
 | 0 => rfl
 | n + 1 => (Jwm f k n).trans (congrArg (fun r => JaL f r (JaM k)) (JoA f k n))
def Jes (f : Nat) : List PV -> List (Nat × Ent) -> Kont -> OR
 | [.ptr 0 [], .ptr 273 [], .ptr 274 [],
 PV.sc
  (Value.int IntKind.i64
   v0)], [(0, .box false 135 (PV.st 135 [.ro 5 v1 v2 v3, .sc (.int .i64 v4), .sc (.int .i64 v5)])), (273, .box false 37 (PV.ar 37 v6)),
 (274,
  Ent.box false 37
   (PV.ar 37
    v7))], k => GA f (JaM k) f v0 v1 v2 v3 v4 v5 v6 v7
 | _, _, _ => none
theorem JBJ (f : Nat) : Jg Joz Jr8 = [] := by kernel_rfl
theorem JBK (f : Nat) : (Item.l Joz Jer N45 (Jes f)).Ok tau Try.prog 1 := Ju Jn Jr7 Jo (x := Jr8) (nm2 := JlE) (Jk _ _ (by rw [JBJ f]; intro q hq; cases hq)) fun vs hp k res hr => by
 unfold Jes at hr
 split at hr
 · rw [← JoA f] at hr; exact ⟨f, 0, hr⟩
 · cases hr
abbrev Jsa := (Jch)
def g45 (f : Nat) (y0 y1 : Bool) (r_B : List PV) (r_P y2 : Int) (k : KR) : OR := GA f (fun x0_0 x1_0 x2_0 x3_0 x4_0 _ x6_0 => k (Res.mk (.ar 37 x6_0) [.box false 135 (PV.st 135 [.ro 5 x0_0 x1_0 x2_0, .sc (.int .i64 x3_0), .sc (.int .i64 x4_0)])] [])) f (0) y0 y1 r_B r_P y2 Jsa Jsa
theorem e45 (f : Nat) (y0 y1 : Bool) (r_B : List PV) (r_P y2 : Int) (k : KR) : JJ tau F45 Try.f45 (Try.f45.body.get!) (Jwl (Jes f)) [.ro] 0 [.ptr 0 []] [.box false 135 (.st 135 [.ro 5 y0 y1 r_B, .sc (.int .i64 r_P), .sc (.int .i64 y2)])] k = g45 f y0 y1 r_B r_P y2 k := by kernel_rfl
theorem JMF (f : Nat) : Jg (Try.f45.body.get!) (Jwl (Jes f)) = [.l Joz Jer N45 (Jes f)] := by kernel_rfl
theorem JMG (f : Nat) : ∀ q ∈ Jg (Try.f45.body.get!) (Jwl (Jes f)), q.Ok tau Try.prog 1 := by rw [JMF f]; exact JL (JBK f) (fun _ h => nomatch h)
theorem JGu : Try.prog.funcs[45]? = some Try.f45 := by kernel_rfl
theorem JGv : Try.f45.body = some (Try.f45.body.get!) := by kernel_rfl
theorem JMH : Enters Try.prog 45 := enters_of JGu (by kernel_rfl) JGv
def JGw : Fns := F0
theorem Jwn : Jq tau Try.prog JGw := Js
def Jsb : An := (.seq .leaf (.seq .leaf (.seq .leaf .leaf)))
def JGx (f : Nat) (x k1 : Int) (k : KR) : OR := bif decide (0 <= IntKind.u64.wrap (32 - JM BinOp.and IntKind.u64 (IntKind.u64.wrap k1) 31)) && true then k (Res.mk (.sc (.int .u32 (JM BinOp.or IntKind.u32 (Xv IntKind.u32 x (JM BinOp.and IntKind.u64 (IntKind.u64.wrap k1) 31)) (JV IntKind.u32 x (IntKind.u64.wrap (32 - JM BinOp.and IntKind.u64 (IntKind.u64.wrap k1) 31)))))) [] []) else none
theorem JMI (f : Nat) (x k1 : Int) (k : KR) : JJ tau JGw Try.f134 (Try.f134.body.get!) Jsb [.ro] 0 [.sc (.int .u32 x), .sc (.int .i64 k1)] [] k = JGx f x k1 k := by kernel_rfl
theorem JGy (f : Nat) : ∀ q ∈ Jg (Try.f134.body.get!) Jsb, q.Ok tau Try.prog 0 := Jw (by kernel_rfl)
theorem Jy8 : Try.prog.funcs[134]? = some Try.f134 := by kernel_rfl
theorem Jy9 : Try.f134.body = some (Try.f134.body.get!) := by kernel_rfl
theorem JGz : Enters Try.prog 134 := enters_of Jy8 (by kernel_rfl) Jy9
def JlG : Jz
 | [.sc (.int .u32 x), .sc (.int .i64 k1)], [], k => JGx 0 x k1 k
 | _, _, _ => none
def JGA : Sig := { own := [], run := JlG }
theorem JGB : Jc tau Try.prog 134 JGA := JO Jn Jwn Jo Jy8 Jy9 Jsb [.ro] 0 [] JlG (JGy 0) fun xs es k res hr => by
 unfold JlG at hr
 split at hr
 · exact ⟨rfl, 0, (JMI 0 _ _  _).trans hr⟩
 · cases hr
def JGC : Fns := Jt 134 JGA (F0)
theorem Jwo : Jq tau Try.prog JGC := (Js).add JGB JGz
def Jsc : An := (.seq .leaf (.seq .leaf .leaf))
def Jwp (f : Nat) (x n : Int) (k : KR) : OR := bif decide (0 <= IntKind.u64.wrap (32 - JM BinOp.and IntKind.u64 (IntKind.u64.wrap (IntKind.i64.wrap (0 - n))) 31)) && true then k (Res.mk (.sc (.int .u32 (JM BinOp.or IntKind.u32 (Xv IntKind.u32 x (JM BinOp.and IntKind.u64 (IntKind.u64.wrap (IntKind.i64.wrap (0 - n))) 31)) (JV IntKind.u32 x (IntKind.u64.wrap (32 - JM BinOp.and IntKind.u64 (IntKind.u64.wrap (IntKind.i64.wrap (0 - n))) 31)))))) [] []) else none
theorem JMJ (f : Nat) (x n : Int) (k : KR) : JJ tau JGC Try.f117 (Try.f117.body.get!) Jsc [.ro] 0 [.sc (.int .u32 x), .sc (.int .i64 n)] [] k = Jwp f x n k := by kernel_rfl
theorem JGD (f : Nat) : ∀ q ∈ Jg (Try.f117.body.get!) Jsc, q.Ok tau Try.prog 0 := Jw (by kernel_rfl)
theorem Jza : Try.prog.funcs[117]? = some Try.f117 := by kernel_rfl
theorem Jzb : Try.f117.body = some (Try.f117.body.get!) := by kernel_rfl
theorem Jzc : Enters Try.prog 117 := enters_of Jza (by kernel_rfl) Jzb
def JlH : Jz
 | [.sc (.int .u32 x), .sc (.int .i64 n)], [], k => Jwp 0 x n k
 | _, _, _ => none
def JMK : Sig := { own := [], run := JlH }
theorem JGE : Jc tau Try.prog 117 JMK := JO Jn Jwo Jo Jza Jzb Jsc [.ro] 0 [] JlH (JGD 0) fun xs es k res hr => by
 unfold JlH at hr
 split at hr
 · exact ⟨rfl, 0, (JMJ 0 _ _  _).trans hr⟩
 · cases hr
def F96 : Fns := F0
theorem JBL : Jq tau Try.prog F96 := Js
def JBM : An := (.seq .leaf (.seq .leaf .leaf))
def g96 (f : Nat) (x n : Int) (k : KR) : OR := bif decide (0 <= n) && true then bif decide (0 <= IntKind.u64.wrap (32 - n)) && true then k (Res.mk (.sc (.int .u32 (JM BinOp.or IntKind.u32 (JV IntKind.u32 x n) (Xv IntKind.u32 x (IntKind.u64.wrap (32 - n)))))) [] []) else none else none
theorem e96 (f : Nat) (x n : Int) (k : KR) : JJ tau F96 Try.f96 (Try.f96.body.get!) JBM [.ro] 0 [.sc (.int .u32 x), .sc (.int .u64 n)] [] k = g96 f x n k := by kernel_rfl
theorem JML (f : Nat) : ∀ q ∈ Jg (Try.f96.body.get!) JBM, q.Ok tau Try.prog 0 := Jw (by kernel_rfl)
theorem JGF : Try.prog.funcs[96]? = some Try.f96 := by kernel_rfl
theorem JGG : Try.f96.body = some (Try.f96.body.get!) := by kernel_rfl
theorem JMM : Enters Try.prog 96 := enters_of JGF (by kernel_rfl) JGG
def Jsd : Jz
 | [.sc (.int .u32 x), .sc (.int .u64 n)], [], k => g96 0 x n k
 | _, _, _ => none
def s96 : Sig := { own := [], run := Jsd }
theorem JMN : Jc tau Try.prog 96 s96 := JO Jn JBL Jo JGF JGG JBM [.ro] 0 [] Jsd (JML 0) fun xs es k res hr => by
 unfold Jsd at hr
 split at hr
 · exact ⟨rfl, 0, (e96 0 _ _  _).trans hr⟩
 · cases hr
def rr (x n : Int) : Int := JM .or .u32 (Xv .u32 x (32 - n)) (JV .u32 x n)
theorem JhA (x y : Int) : JM .or .u32 x y = JM .or .u32 y x := by
 simp only [JM]; rw [BitVec.or_comm]
theorem Jse {P : Int -> Prop} (h : ∀ m : Nat, m < 31 -> P ((m : Int) + 1)) (n : Int) (h1 : 1 <= n) (h2 : n <= 31) : P n := by
 have := h (n - 1).toNat (by omega)
 have he : (((n - 1).toNat : Nat) : Int) + 1 = n := by omega
 rwa [he] at this
def JhB : Jz
 | [.sc (.int .u32 x), .sc (.int .i64 n)], [], k => bif decide (1 <= n) && decide (n <= 31) then k ⟨.sc (.int .u32 (rr x n)), [], []⟩ else none
 | _, _, _ => none
def Jsf : Sig := { own := [], run := JhB }
theorem JlI (x : Int) (k : KR) (n : Int) (h1 : 1 <= n) (h2 : n <= 31) : Jwp 0 x n k = k ⟨.sc (.int .u32 (rr x n)), [], []⟩ := by
 refine Jse (P := fun n => Jwp 0 x n k = k ⟨.sc (.int .u32 (rr x n)), [], []⟩) ?_ n h1 h2
 intro m hm
 iterate 31 (rcases m with _ | m; · kernel_rfl)
 omega
theorem Jsg : Jc tau Try.prog 117 Jsf := JGE.of fun xs es k res hr => by
 change JhB xs es k = some res at hr
 unfold JhB at hr
 split at hr
 · obtain ⟨hc, hr⟩ := Jv hr
   simp only [Bool.and_eq_true, decide_eq_true_eq] at hc
   exact (JlI _ _ _ hc.1 hc.2).trans hr
 · cases hr
def JlJ : Jz
 | [.sc (.int .u32 x), .sc (.int .u64 n)], [], k => bif decide (1 <= n) && decide (n <= 31) then k ⟨.sc (.int .u32 (rr x n)), [], []⟩ else none
 | _, _, _ => none
def JGH : Sig := { own := [], run := JlJ }
theorem JqE (x : Int) (k : KR) (n : Int) (h1 : 1 <= n) (h2 : n <= 31) : g96 0 x n k = k ⟨.sc (.int .u32 (rr x n)), [], []⟩ := by
 have hc : ∀ n, rr x n = JM .or .u32 (JV .u32 x n) (Xv .u32 x (32 - n)) := fun n => JhA _ _
 rw [hc]
 refine Jse (P := fun n => g96 0 x n k = k ⟨.sc (.int .u32 (JM .or .u32 (JV .u32 x n) (Xv .u32 x (32 - n)))), [], []⟩) ?_ n h1 h2
 intro m hm
 iterate 31 (rcases m with _ | m; · kernel_rfl)
 omega
theorem JGI : Jc tau Try.prog 96 JGH := JMN.of fun xs es k res hr => by
 change JlJ xs es k = some res at hr
 unfold JlJ at hr
 split at hr
 · obtain ⟨hc, hr⟩ := Jv hr
   simp only [Bool.and_eq_true, decide_eq_true_eq] at hc
   exact (JqE _ _ _ hc.1 hc.2).trans hr
 · cases hr
def JfY : Nat := 89
def Jwq : Fns := Jt 117 Jsf (F0)
theorem JhC : Jq tau Try.prog Jwq := (Js).add Jsg Jzc
def JhD : Code := Qf (Try.f115.body.get!) [1, 1, 0, 1, 0, 0]
def JaN : Nm := [(0, .any), (2, .any), (3, .any), (8, .any)]
def JhE : Nm := [(2, .any), (3, .any)]
def JlK : An := (.seq .leaf (.seq (.cond .leaf .leaf) (.seq (.block none (.seq .leaf .leaf)) .leaf)))
def JhF : Code := Qf (Try.f115.body.get!) [1, 1, 1, 0, 1, 0, 0]
def JaO : Nm := [(2, .any), (3, .any), (5, .any)]
def JhG : Nm := [(2, .any), (3, .any)]
def JlL : An := (.seq (.seq .leaf (.cond .leaf .leaf)) (.seq (.block none (.seq .leaf .leaf)) .leaf))
def Jsh (r0 : Qw) (r1 : Qw) : An := (.seq .leaf (.seq .leaf (.seq (.seq .leaf (.block none (.sum JaN JfY r0))) (.seq (.seq .leaf (.block none (.sum JaO JfY r1))) (.seq .leaf .leaf)))))
abbrev JoB := Bool -> Bool -> List PV -> Int -> List PV -> List PV -> OR
def Z7 (f : Nat) (rc : JoB) (k0 : List PV -> List PV -> OR) (v0 v1 : Bool) (v2 : List PV) (v3 : Int) (v4 v5 : List PV) : OR := bif decide (v3 < 16) then bif decide (0 <= IntKind.i64.wrap (4 * v3)) && decide (IntKind.i64.wrap (4 * v3) < zi v2.length) && PV.isInt IntKind.u8 (v2.getD (IntKind.i64.wrap (4 * v3)).toNat PV.top) && true then bif decide (0 <= IntKind.i64.wrap (IntKind.i64.wrap (4 * v3) + 1)) && decide (IntKind.i64.wrap (IntKind.i64.wrap (4 * v3) + 1) < zi v2.length) && PV.isInt IntKind.u8 (v2.getD (IntKind.i64.wrap (IntKind.i64.wrap (4 * v3) + 1)).toNat PV.top) && true then bif decide (0 <= IntKind.i64.wrap (IntKind.i64.wrap (4 * v3) + 2)) && decide (IntKind.i64.wrap (IntKind.i64.wrap (4 * v3) + 2) < zi v2.length) && PV.isInt IntKind.u8 (v2.getD (IntKind.i64.wrap (IntKind.i64.wrap (4 * v3) + 2)).toNat PV.top) && true then bif decide (0 <= IntKind.i64.wrap (IntKind.i64.wrap (4 * v3) + 3)) && decide (IntKind.i64.wrap (IntKind.i64.wrap (4 * v3) + 3) < zi v2.length) && PV.isInt IntKind.u8 (v2.getD (IntKind.i64.wrap (IntKind.i64.wrap (4 * v3) + 3)).toNat PV.top) && true then bif decide (0 <= v3) && decide (v3 < zi 64) && true then rc v0 v1 v2 (IntKind.i64.wrap (v3 + 1)) v4 (v5.set v3.toNat (.sc (.int .u32 (JM BinOp.or IntKind.u32 (JM BinOp.or IntKind.u32 (JM BinOp.or IntKind.u32 (Xv IntKind.u32 (IntKind.u32.wrap (v2.getD (IntKind.i64.wrap (4 * v3)).toNat PV.top).int) 24) (Xv IntKind.u32 (IntKind.u32.wrap (v2.getD (IntKind.i64.wrap (IntKind.i64.wrap (4 * v3) + 1)).toNat PV.top).int) 16)) (Xv IntKind.u32 (IntKind.u32.wrap (v2.getD (IntKind.i64.wrap (IntKind.i64.wrap (4 * v3) + 2)).toNat PV.top).int) 8)) (IntKind.u32.wrap (v2.getD (IntKind.i64.wrap (IntKind.i64.wrap (4 * v3) + 3)).toNat PV.top).int))))) else none else none else none else none else none else k0 v4 v5
def Yl (f : Nat) (k0 : List PV -> List PV -> OR) : Nat -> JoB
 | 0 => fun _ _ _ _ _ _ => none
 | n + 1 => Z7 f (Yl f k0 n) k0
def VN (k : Kont) := fun x0 x1 => k (Ex.exit 0) (Jj JhE JfY [.ptr 1440 [], .ptr 1441 []] [(1440, .box false 159 (PV.ar 159 x0)), (1441, .box false 159 (PV.ar 159 x1))])
def JhH (f : Nat) (k : Kont) (n : Nat) (v0 v1 : Bool) (v2 : List PV) (v3 : Int) (v4 v5 : List PV) : OR := Jy tau 0 JaN (fun s k => ev tau Jwq 0 0 JhD (JlK ) s k) n (Jj JaN JfY [.ro 5 v0 v1 v2, .ptr 1440 [], .ptr 1441 [], .sc (.int .i64 v3)] [(1440, .box false 159 (PV.ar 159 v4)), (1441, .box false 159 (PV.ar 159 v5))]) (JG tau 0 JhE k)
theorem Jsi (f : Nat) (k : Kont) (n : Nat) : JhH f k (n + 1) = Z7 f (JhH f k n) (VN k) := by kernel_rfl
theorem JjO (f : Nat) (k : Kont) : ∀ n, JhH f k n = Yl f (VN k) n
 | 0 => rfl
 | n + 1 => (Jsi f k n).trans (congrArg (fun r => Z7 f r (VN k)) (JjO f k n))
def Jcj (f : Nat) : List PV -> List (Nat × Ent) -> Kont -> OR
 | [.ro 5 v0 v1 v2, .ptr 1440 [], .ptr 1441 [],
 PV.sc
  (Value.int IntKind.i64
   v3)], [(1440, .box false 159 (PV.ar 159 v4)),
 (1441,
  Ent.box false 159
   (PV.ar 159
    v5))], k => Yl f (VN k) f v0 v1 v2 v3 v4 v5
 | _, _, _ => none
theorem Jwr (f : Nat) : Jg JhD JlK = [] := by kernel_rfl
theorem Jws (f : Nat) : (Item.l JhD JaN JfY (Jcj f)).Ok tau Try.prog 0 := Ju Jn JhC Jo (x := JlK) (nm2 := JhE) (Jk _ _ (by rw [Jwr f]; intro q hq; cases hq)) fun vs hp k res hr => by
 unfold Jcj at hr
 split at hr
 · rw [← JjO f] at hr; exact ⟨f, 0, hr⟩
 · cases hr
abbrev JoC := Int -> List PV -> List PV -> OR
abbrev Wo (v0 : Int) (v2 : List PV) := (Jr (PV.ar 159 v2) [(IntKind.i64.wrap (v0 - 15)).toNat])
abbrev Wp (v0 : Int) (v2 : List PV) := (Jr (PV.ar 159 v2) [(IntKind.i64.wrap (v0 - 2)).toNat])
def Z8 (f : Nat) (rc : JoC) (k0 : List PV -> List PV -> OR) (v0 : Int) (v1 v2 : List PV) : OR := bif decide (v0 < 64) then bif decide (0 <= IntKind.i64.wrap (v0 - 15)) && decide (IntKind.i64.wrap (v0 - 15) < zi 64) && true then bif PV.isInt IntKind.u32 (Wo v0 v2) && true then bif decide (0 <= IntKind.i64.wrap (v0 - 2)) && decide (IntKind.i64.wrap (v0 - 2) < zi 64) && true then bif PV.isInt IntKind.u32 (Wp v0 v2) && true then bif decide (0 <= IntKind.i64.wrap (v0 - 16)) && decide (IntKind.i64.wrap (v0 - 16) < zi 64) && true then bif PV.isInt IntKind.u32 (Jr (PV.ar 159 v2) [(IntKind.i64.wrap (v0 - 16)).toNat]) && true then bif decide (0 <= IntKind.i64.wrap (v0 - 7)) && decide (IntKind.i64.wrap (v0 - 7) < zi 64) && true then bif PV.isInt IntKind.u32 (Jr (PV.ar 159 v2) [(IntKind.i64.wrap (v0 - 7)).toNat]) && true then bif decide (0 <= v0) && decide (v0 < zi 64) && true then rc (IntKind.i64.wrap (v0 + 1)) v1 (v2.set v0.toNat (.sc (.int .u32 (IntKind.u32.wrap (IntKind.u32.wrap (IntKind.u32.wrap ((Jr (PV.ar 159 v2) [(IntKind.i64.wrap (v0 - 16)).toNat]).int + JM BinOp.xor IntKind.u32 (JM BinOp.xor IntKind.u32 (rr (Wo v0 v2).int 7) (rr (Wo v0 v2).int 18)) (JV IntKind.u32 (Wo v0 v2).int 3)) + (Jr (PV.ar 159 v2) [(IntKind.i64.wrap (v0 - 7)).toNat]).int) + JM BinOp.xor IntKind.u32 (JM BinOp.xor IntKind.u32 (rr (Wp v0 v2).int 17) (rr (Wp v0 v2).int 19)) (JV IntKind.u32 (Wp v0 v2).int 10)))))) else none else none else none else none else none else none else none else none else none else k0 v1 v2
def Ym (f : Nat) (k0 : List PV -> List PV -> OR) : Nat -> JoC
 | 0 => fun _ _ _ => none
 | n + 1 => Z8 f (Ym f k0 n) k0
def VO (k : Kont) := fun x0 x1 => k (Ex.exit 2) (Jj JhG JfY [.ptr 1440 [], .ptr 1441 []] [(1440, .box false 159 (PV.ar 159 x0)), (1441, .box false 159 (PV.ar 159 x1))])
def JhI (f : Nat) (k : Kont) (n : Nat) (v0 : Int) (v1 v2 : List PV) : OR := Jy tau 0 JaO (fun s k => ev tau Jwq 0 0 JhF (JlL ) s k) n (Jj JaO JfY [.ptr 1440 [], .ptr 1441 [], .sc (.int .i64 v0)] [(1440, .box false 159 (PV.ar 159 v1)), (1441, .box false 159 (PV.ar 159 v2))]) (JG tau 0 JhG k)
theorem Jsj (f : Nat) (k : Kont) (n : Nat) : JhI f k (n + 1) = Z8 f (JhI f k n) (VO k) := by kernel_rfl
theorem JjP (f : Nat) (k : Kont) : ∀ n, JhI f k n = Ym f (VO k) n
 | 0 => rfl
 | n + 1 => (Jsj f k n).trans (congrArg (fun r => Z8 f r (VO k)) (JjP f k n))
def Jck (f : Nat) : List PV -> List (Nat × Ent) -> Kont -> OR
 | [.ptr 1440 [], .ptr 1441 [],
 PV.sc
  (Value.int IntKind.i64
   v0)], [(1440, .box false 159 (PV.ar 159 v1)),
 (1441,
  Ent.box false 159
   (PV.ar 159
    v2))], k => Ym f (VO k) f v0 v1 v2
 | _, _, _ => none
theorem Jwt (f : Nat) : Jg JhF JlL = [] := by kernel_rfl
theorem Jwu (f : Nat) : (Item.l JhF JaO JfY (Jck f)).Ok tau Try.prog 0 := Ju Jn JhC Jo (x := JlL) (nm2 := JhG) (Jk _ _ (by rw [Jwt f]; intro q hq; cases hq)) fun vs hp k res hr => by
 unfold Jck at hr
 split at hr
 · rw [← JjP f] at hr; exact ⟨f, 0, hr⟩
 · cases hr
abbrev JoD := (Jol)
def JGJ (f : Nat) (b_z b_f : Bool) (b : List PV) (k : KR) : OR := Yl f (fun x0_0 x1_0 => Ym f (fun _ x1_1 => k (Res.mk (.ar 159 x1_1) [] [])) f (16) x0_0 x1_0) f b_z b_f b (0) JoD JoD
theorem JMO (f : Nat) (b_z b_f : Bool) (b : List PV) (k : KR) : JJ tau Jwq Try.f115 (Try.f115.body.get!) (Jsh (Jcj f) (Jck f)) [] 0 [.ro 5 b_z b_f b] [] k = JGJ f b_z b_f b k := by kernel_rfl
theorem JGK (f : Nat) : Jg (Try.f115.body.get!) (Jsh (Jcj f) (Jck f)) = [.l JhD JaN JfY (Jcj f), .l JhF JaO JfY (Jck f)] := by kernel_rfl
theorem JGL (f : Nat) : ∀ q ∈ Jg (Try.f115.body.get!) (Jsh (Jcj f) (Jck f)), q.Ok tau Try.prog 0 := by rw [JGK f]; exact JL (Jws f) (JL (Jwu f) (fun _ h => nomatch h))
theorem Jzd : Try.prog.funcs[115]? = some Try.f115 := by kernel_rfl
theorem Jze : Try.f115.body = some (Try.f115.body.get!) := by kernel_rfl
theorem JGM : Enters Try.prog 115 := enters_of Jzd (by kernel_rfl) Jze
abbrev ww (x : Int) : Int := IntKind.u32.wrap x
def JGN (a b c d : Int) : Int := JM .or .u32 (JM .or .u32 (JM .or .u32 (Xv .u32 (ww a) 24) (Xv .u32 (ww b) 16)) (Xv .u32 (ww c) 8)) (ww d)
def sg0 (x : Int) : Int := JM .xor .u32 (JM .xor .u32 (rr x 7) (rr x 18)) (JV .u32 x 3)
def sg1 (x : Int) : Int := JM .xor .u32 (JM .xor .u32 (rr x 17) (rr x 19)) (JV .u32 x 10)
def JBN (w16 w15 w7 w2 : Int) : Int := ww (ww (ww (w16 + sg0 w15) + w7) + sg1 w2)
def word (bs : List Int) (j : Nat) : Int := JGN (bs.getD (4 * j) 0) (bs.getD (4 * j + 1) 0) (bs.getD (4 * j + 2) 0) (bs.getD (4 * j + 3) 0)
def QY (bs : List Int) : Nat -> List Int
 | 0 => (List.range 16).map (word bs)
 | i + 1 => QY bs i ++ [JBN ((QY bs i).getD i 0) ((QY bs i).getD (i + 1) 0) ((QY bs i).getD (i + 9) 0) ((QY bs i).getD (i + 14) 0)]
def Qs (bs : List Int) : List Int := QY bs 48
theorem Qg (bs : List Int) : ∀ i, (QY bs i).length = 16 + i
 | 0 => by simp [QY]
 | i + 1 => by simp [QY, Qg bs i]; omega
def Jet (bs : List Int) (i : Nat) : List Int := (List.range i).map (word bs) ++ List.replicate (64 - i) 0
def Jc3 (bs : List Int) (i : Nat) : List Int := QY bs i ++ List.replicate (48 - i) 0
theorem JhJ (bs : List Int) (i : Nat) (h : i <= 48) : (Jc3 bs i).length = 64 := by simp [Jc3, Qg]; omega
theorem JjQ (L : List Int) (m : Nat) (x : Int) : (L ++ List.replicate (m + 1) 0).set L.length x = (L ++ [x]) ++ List.replicate m 0 := by
 simp [List.replicate_succ]
theorem JqF (bs : List Int) (i : Nat) (h : i < 64) : (Jet bs i).set i (word bs i) = Jet bs (i + 1) := by
 have := JjQ ((List.range i).map (word bs)) (63 - i) (word bs i)
 simp only [List.length_map, List.length_range] at this
 simp only [Jet, show 64 - i = 63 - i + 1 from by omega, this, show 64 - (i + 1) = 63 - i from by omega, List.range_succ, List.map_append, List.map_cons, List.map_nil]
theorem VP (bs : List Int) (i j : Nat) (h : j < 16 + i) : (Jc3 bs i).getD j 0 = (QY bs i).getD j 0 := by
 simp only [Jc3, List.getD_eq_getElem?_getD]
 rw [List.getElem?_append_left (by rw [Qg]; exact h)]
theorem JqG (bs : List Int) (i : Nat) (h : i < 48) (x : Int) : (Jc3 bs i).set (i + 16) x = (QY bs i ++ [x]) ++ List.replicate (48 - (i + 1)) 0 := by
 have := JjQ (QY bs i) (47 - i) x
 rw [Qg] at this
 rw [Jc3, show 48 - i = 47 - i + 1 from by omega, show i + 16 = 16 + i from by omega, this, show 48 - (i + 1) = 47 - i from by omega]
theorem Jsk (bs : List Int) (hb : bs.length = 64) (f : Nat) (k0 : List PV -> List PV -> OR) (nl fl : Bool) (w : List PV) : ∀ (d i n : Nat), i + d = 16 -> d < n ->
  Yl f k0 n nl fl (pu .u8 bs) (i : Int) w (pu .u32 (Jet bs i)) = k0 w (pu .u32 (Jet bs 16))
 | 0, i, n + 1, h, hn => by
   obtain rfl : i = 16 := by omega
   simp only [Yl, Z7]
   exact Jd (by decide)
 | d + 1, i, n + 1, h, hn => by
   have h4 : IntKind.i64.wrap (4 * (i : Int)) = ((4 * i : Nat) : Int) := by rw [wrap_i64 (by omega) (by omega)]; omega
   have h41 : IntKind.i64.wrap (((4 * i : Nat) : Int) + 1) = ((4 * i + 1 : Nat) : Int) := by rw [wrap_i64 (by omega) (by omega)]; omega
   have h42 : IntKind.i64.wrap (((4 * i : Nat) : Int) + 2) = ((4 * i + 2 : Nat) : Int) := by rw [wrap_i64 (by omega) (by omega)]; omega
   have h43 : IntKind.i64.wrap (((4 * i : Nat) : Int) + 3) = ((4 * i + 3 : Nat) : Int) := by rw [wrap_i64 (by omega) (by omega)]; omega
   have h5 := wI (i := i) (by omega)
   simp only [Yl, Z7, h4, h41, h42, h43, h5, Int.toNat_natCast, zi]
   rw [J7 (by omega), J7 (by omega), J7 (by omega), J7 (by omega), QG (by omega), QG (by omega), QG (by omega), QG (by omega), JI, Xs]
   refine (Ja (by simp; omega)).trans ?_
   refine (Ja (by simp; omega)).trans ?_
   refine (Ja (by simp; omega)).trans ?_
   refine (Ja (by simp; omega)).trans ?_
   refine (Ja (by simp; omega)).trans ?_
   refine (Ja (by simp; omega)).trans ?_
   have := Jsk bs hb f k0 nl fl w d (i + 1) n (by omega) (by omega)
   rw [← JqF bs i (by omega)] at this
   exact this
theorem Jsl (bs : List Int) (f : Nat) (k0 : List PV -> List PV -> OR) (w : List PV) : ∀ (d i n : Nat), i + d = 48 -> d < n ->
  Ym f k0 n ((i + 16 : Nat) : Int) w (pu .u32 (Jc3 bs i)) = k0 w (pu .u32 (QY bs 48))
 | 0, i, n + 1, h, hn => by
   obtain rfl : i = 48 := by omega
   simp only [Ym, Z8, Wp, Wo]
   exact (Jd (by decide)).trans (by simp [Jc3])
 | d + 1, i, n + 1, h, hn => by
   have h15 : IntKind.i64.wrap (((i + 16 : Nat) : Int) - 15) = ((i + 1 : Nat) : Int) := by rw [wrap_i64 (by omega) (by omega)]; omega
   have h2 : IntKind.i64.wrap (((i + 16 : Nat) : Int) - 2) = ((i + 14 : Nat) : Int) := by rw [wrap_i64 (by omega) (by omega)]; omega
   have h16 : IntKind.i64.wrap (((i + 16 : Nat) : Int) - 16) = ((i : Nat) : Int) := by rw [wrap_i64 (by omega) (by omega)]; omega
   have h7 : IntKind.i64.wrap (((i + 16 : Nat) : Int) - 7) = ((i + 9 : Nat) : Int) := by rw [wrap_i64 (by omega) (by omega)]; omega
   have h1 : IntKind.i64.wrap (((i + 16 : Nat) : Int) + 1) = ((i + 1 + 16 : Nat) : Int) := by rw [wrap_i64 (by omega) (by omega)]; omega
   have hl := JhJ bs i (by omega)
   simp only [Ym, Z8, Wp, Wo, h15, h2, h16, h7, h1, Int.toNat_natCast, zi, Yi]
   rw [J7 (by omega), J7 (by omega), J7 (by omega), J7 (by omega), QG (by omega), QG (by omega), QG (by omega), QG (by omega), Xs]
   refine (Ja (by simp; omega)).trans ?_
   refine (Ja (by simp; omega)).trans ?_
   refine (Ja (by simp)).trans ?_
   refine (Ja (by simp; omega)).trans ?_
   refine (Ja (by simp)).trans ?_
   refine (Ja (by simp; omega)).trans ?_
   refine (Ja (by simp)).trans ?_
   refine (Ja (by simp; omega)).trans ?_
   refine (Ja (by simp)).trans ?_
   refine (Ja (by simp; omega)).trans ?_
   have := Jsl bs f k0 w d (i + 1) n (by omega) (by omega)
   rw [VP bs i i (by omega), VP bs i (i + 1) (by omega), VP bs i (i + 9) (by omega), VP bs i (i + 14) (by omega), JqG bs i (by omega)]
   exact this
theorem Jwv (bs : List Int) (hb : bs.length = 64) (nl fl : Bool) (k : KR) : JGJ 100 nl fl (pu .u8 bs) k = k ⟨.ar 159 (pu .u32 (Qs bs)), [], []⟩ := by
 have h0 : ∀ k0 w, Yl 100 k0 100 nl fl (pu .u8 bs) 0 w (pu .u32 (List.replicate 64 0)) = k0 w (pu .u32 (Jet bs 16)) := fun k0 w => Jsk bs hb 100 k0 nl fl w 16 0 100 (by omega) (by omega)
 have h1 : ∀ k0 w, Ym 100 k0 100 16 w (pu .u32 (Jet bs 16)) = k0 w (pu .u32 (QY bs 48)) := fun k0 w => Jsl bs 100 k0 w 48 0 100 (by omega) (by omega)
 exact (h0 _ _).trans (h1 _ _)
def JhK : Jz
 | [.ro 5 nl fl b], [], k => bif Jl .u8 b && decide (b.length = 64) then k ⟨.ar 159 (pu .u32 (Qs (JD b))), [], []⟩ else none
 | _, _, _ => none
def Jzf : Sig := { own := [], run := JhK }
theorem JBO : Jc tau Try.prog 115 Jzf := JO Jn JhC Jo Jzd Jze _ [] 0 [] JhK (JGL 100) fun xs es k res hr => by
 unfold JhK at hr
 split at hr
 · obtain ⟨hc, hr⟩ := Jv hr
   simp only [Bool.and_eq_true, decide_eq_true_eq] at hc
   refine ⟨rfl, 0, (JMO 100 _ _ _ _).trans ?_⟩
   rw [QB hc.1, Jwv _ (by simpa using hc.2)]
   exact hr
 · cases hr
def QQ (g : Nat -> Int) (t : List Int) (i : Nat) : List Int := (List.range i).map g ++ t.drop i
theorem Wg (g : Nat -> Int) (t : List Int) : QQ g t 0 = t := by simp [QQ]
theorem WZ (g : Nat -> Int) (t : List Int) : QQ g t t.length = (List.range t.length).map g := by simp [QQ]
theorem JaP (g : Nat -> Int) (t : List Int) (i : Nat) (h : i <= t.length) : (QQ g t i).length = t.length := by simp [QQ]; omega
theorem QP (g : Nat -> Int) (t : List Int) (i : Nat) (h : i < t.length) : (QQ g t i).set i (g i) = QQ g t (i + 1) := by
 rw [QQ, List.set_append_right _ _ (by simp), List.drop_eq_getElem_cons h, List.length_map, List.length_range, Nat.sub_self, List.set_cons_zero]
 simp [QQ, List.range_succ]
theorem Jgr (g : Nat -> Int) (t : List Int) (i : Nat) (h : i < t.length) : (QQ g t i).getD i 0 = t.getD i 0 := by
 simp only [QQ, List.getD_eq_getElem?_getD]
 rw [List.getElem?_append_right (by simp)]
 simp
def kks : List Int := [1116352408, 1899447441, 3049323471, 3921009573, 961987163, 1508970993, 2453635748, 2870763221, 3624381080, 310598401, 607225278, 1426881987, 1925078388, 2162078206, 2614888103, 3248222580, 3835390401, 4022224774, 264347078, 604807628, 770255983, 1249150122, 1555081692, 1996064986, 2554220882, 2821834349, 2952996808, 3210313671, 3336571891, 3584528711, 113926993, 338241895, 666307205, 773529912, 1294757372, 1396182291, 1695183700, 1986661051, 2177026350, 2456956037, 2730485921, 2820302411, 3259730800, 3345764771, 3516065817, 3600352804, 4094571909, 275423344, 430227734, 506948616, 659060556, 883997877, 958139571, 1322822218, 1537002063, 1747873779, 1955562222, 2024104815, 2227730452, 2361852424, 2428436474, 2756734187, 3204031479, 3329325298]
def iv : List Int := [1779033703, 3144134277, 1013904242, 2773480762, 1359893119, 2600822924, 528734635, 1541459225]
def xW (k w h e f g : Int) : Int := ww (ww (ww (ww (h + JM .xor .u32 (JM .xor .u32 (rr e 6) (rr e 11)) (rr e 25)) + JM .xor .u32 (JM .and .u32 e f) (JM .and .u32 (JM .xor .u32 (Int.ofNat (2 ^ IntKind.u32.bits - Nat.succ 0)) e) g)) + k) + w)
def yW (a b c : Int) : Int := ww (JM .xor .u32 (JM .xor .u32 (rr a 2) (rr a 13)) (rr a 22) + JM .xor .u32 (JM .xor .u32 (JM .and .u32 a b) (JM .and .u32 a c)) (JM .and .u32 b c))
def rnd (k w : Int) (t : List Int) : List Int :=
 [ww (xW k w (t.getD 7 0) (t.getD 4 0) (t.getD 5 0) (t.getD 6 0) + yW (t.getD 0 0) (t.getD 1 0) (t.getD 2 0)), t.getD 0 0, t.getD 1 0, t.getD 2 0,
  ww (t.getD 3 0 + xW k w (t.getD 7 0) (t.getD 4 0) (t.getD 5 0) (t.getD 6 0)), t.getD 4 0, t.getD 5 0, t.getD 6 0]
def Jcl (W s : List Int) : Nat -> List Int
 | 0 => s
 | i + 1 => rnd (kks.getD i 0) (W.getD i 0) (Jcl W s i)
theorem Yn (W s : List Int) (h : s.length = 8) : ∀ i, (Jcl W s i).length = 8
 | 0 => h
 | i + 1 => rfl
def JlM (s bs : List Int) : List Int := (List.range 8).map fun i => ww ((Jcl (Qs bs) s 64).getD i 0 + s.getD i 0)
theorem JjR (s bs : List Int) : (JlM s bs).length = 8 := by simp [JlM]
def XZ (s b : List Int) : Nat -> List Int
 | 0 => s
 | n + 1 => JlM (XZ s b n) ((b.drop (64 * n)).take 64)
theorem XB (s b : List Int) (h : s.length = 8) : ∀ n, (XZ s b n).length = 8
 | 0 => h
 | n + 1 => JjR _ _
def zs (m : Nat) : Nat := (120 - m % 64) % 64
def Jww (n : Nat) : List Int := (List.range 8).map fun (i : Nat) => IntKind.u8.wrap (JV .u64 (IntKind.u64.wrap (IntKind.u64.wrap (n : Int) * 8)) (56 - 8 * (i : Int)))
def Q4 (bs : List Int) : List Int := (bs ++ [128] ++ List.replicate (zs (bs.length + 1)) 0) ++ Jww bs.length
theorem Jc4 (bs : List Int) : (Q4 bs).length = 64 * ((Q4 bs).length / 64) := by
 have : (Q4 bs).length = bs.length + 1 + zs (bs.length + 1) + 8 := by simp [Q4, Jww]; omega
 rw [this]; unfold zs; omega
def ZN (s : List Int) (i : Nat) : Int := IntKind.u8.wrap (JV .u32 (s.getD (i / 4) 0) (24 - 8 * ((i % 4 : Nat) : Int)))
def Jsm (s : List Int) : List Int := (List.range 32).map (ZN s)
def JoE (bs : List Int) : List Int := Jsm (XZ iv (Q4 bs) ((Q4 bs).length / 64))
def JX (bs : List Int) : List Int := bif Nat.ble bs.length bs.length then JoE bs else []
theorem Jdw (bs : List Int) : JX bs = JoE bs := by
 have : Nat.ble bs.length bs.length = true := by rw [Nat.ble_eq]; exact Nat.le_refl _
 rw [JX, this]; rfl
theorem Qx (bs : List Int) : (JX bs).length = 32 := by simp [Jdw, JoE, Jsm]
theorem Jeu (n : Nat) : (zi n).tmod 64 = ((n % 64 : Nat) : Int) := by
 show (n : Int).tmod 64 = _
 rw [Int.tmod_eq_emod_of_nonneg (by omega)]; omega
def Jev : Nat -> RS -> RS
 | 0, s => s
 | n + 1, s => Jev n (Qj 1 s)
def JaQ : Nat -> RS -> List Int
 | 0, _ => []
 | n + 1, s => IntKind.u8.wrap (WN 1 s) :: JaQ n (Qj 1 s)
def Jew : Nat -> RT -> RT
 | 0, t => t
 | n + 1, t => Jew n (QW 1 t)
def hashS : RS -> RS := hid (Jev 32)
def hashV : RS -> List Int := hid (JaQ 32)
def hashT : RT -> RT := hid (Jew 32)
def hashVT : RT -> List Int := hid fun t => JaQ 32 t.view
theorem hashS_eq (s : RS) : hashS s = Jev 32 s := by rw [hashS, hid_eq]
theorem hashV_eq (s : RS) : hashV s = JaQ 32 s := by rw [hashV, hid_eq]
theorem hashT_eq (t : RT) : hashT t = Jew 32 t := by rw [hashT, hid_eq]
theorem hashVT_eq (t : RT) : hashVT t = JaQ 32 t.view := by rw [hashVT, hid_eq]
theorem Jc5 : ∀ (n : Nat) (s : RS), (JaQ n s).length = n
 | 0, _ => rfl
 | n + 1, s => by simp [JaQ, Jc5 n]
@[simp] theorem hashV_length (s : RS) : (hashV s).length = 32 := by rw [hashV_eq]; exact Jc5 32 s
theorem Jgs : ∀ (n : Nat) (t : RT), (Jew n t).view = Jev n t.view
 | 0, _ => rfl
 | n + 1, t => by simp only [Jew, Jev, Jgs n, YT]
@[simp] theorem hashT_view (t : RT) : (hashT t).view = hashS t.view := by rw [hashT_eq, hashS_eq, Jgs]
@[simp] theorem hashVT_val (t : RT) : hashVT t = hashV t.view := by rw [hashVT_eq, hashV_eq]
theorem JoF : ∀ (n : Nat) {t : RT}, okT t = true -> okT (Jew n t) = true
 | 0, _, h => h
 | n + 1, t, h => JoF n (Z3 h 1)
@[simp] theorem Jsn {t : RT} (h : okT t = true) : okT (hashT t) = true := by rw [hashT_eq]; exact JoF 32 h
theorem JhL : ∀ (n : Nat) {s : RS}, byB s.b = true -> byB (Jev n s).b = true
 | 0, _, h => h
 | n + 1, s, h => JhL n (YS h 1)
theorem Jzg (f : Nat) (k0 : Bool -> Bool -> List PV -> Int -> Int -> List PV -> List PV -> OR) (z fl : Bool) (h0 : List PV) : ∀ (d i n : Nat) (t : RT) (L : List Int), i + d = 32 -> d < n -> okT t = true -> L.length = 32 ->
  GA f k0 n (i : Int) z fl t.B t.P t.e h0 (pu .u8 L) = k0 z fl (Jew d t).B (Jew d t).P (Jew d t).e h0 (pu .u8 (L.take i ++ JaQ d t.view))
 | 0, i, n + 1, t, L, h, hn, hk, hL => by
   obtain rfl : i = 32 := by omega
   simp only [GA, JaL, Jew, JaQ, List.append_nil]
   rw [List.take_of_length_le (by omega)]
   exact Jd (by decide)
 | d + 1, i, n + 1, t, L, h, hn, hk, hL => by
   have g1 := tI i
   have w1 := wI (i := i) (by omega)
   simp only [GA, JaL, g1, w1, Xs]
   refine (Ja (by simp; omega)).trans ((Ja hk).trans ((Ja (by simp; omega)).trans ?_))
   have := Jzg f k0 z fl h0 d (i + 1) n (QW 1 t) (L.set i (IntKind.u8.wrap (Ql 1 t))) (by omega) (by omega) (Z3 hk 1) (by simpa using hL)
   rw [Xp]
   refine this.trans ?_
   have hset : (L.set i (IntKind.u8.wrap (Ql 1 t))).take (i + 1) = L.take i ++ [IntKind.u8.wrap (Ql 1 t)] := by
    rw [List.take_add_one, List.take_set_of_le (Nat.le_refl i), List.getElem?_set_self (by omega)]; rfl
   rw [hset, YT, Jdv]
   simp only [Jew, JaQ, List.append_assoc, List.cons_append, List.nil_append]
def JlN : Jz
 | [.ptr 0 []], [.box false 135 (.st 135 [.ro 5 z f B, .sc (.int .i64 P), .sc (.int .i64 e)])], k =>
  bif okT ⟨B, P, e⟩ then k ⟨.ar 37 (pu .u8 (hashVT ⟨B, P, e⟩)), [rfP z f (hashT ⟨B, P, e⟩)], []⟩ else none
 | _, _, _ => none
def JGO : Sig := { own := [], run := JlN }
theorem JGP : Jc tau Try.prog 45 JGO := Jc.mk' fun xs es k res hl hr => by
 change JlN xs es k = some res at hr
 unfold JlN at hr
 split at hr
 · rename_i z f B P e
   obtain ⟨hc, hr⟩ := Jv hr
   have hg : g45 40 z f B P e k = some res := by
    have h := Jzg 40 (fun x0_0 x1_0 x2_0 x3_0 x4_0 Q6 x6_0 => k (Res.mk (.ar 37 x6_0) [.box false 135 (.st 135 [.ro 5 x0_0 x1_0 x2_0, .sc (.int .i64 x3_0), .sc (.int .i64 x4_0)])] [])) z f (pu .u8 (List.replicate 32 0)) 32 0 40 ⟨B, P, e⟩ (List.replicate 32 0) (by omega) (by omega) hc (by simp)
    rw [List.take_zero, List.nil_append] at h
    rw [hashVT_eq, hashT_eq] at hr
    exact Eq.trans h hr
   exact J3 Jn Jr7 Jo JGu JGv (Jwl (Jes 40)) [.ro] 1 0 (JMG 40) hl rfl ((e45 40 z f B P e k).trans hg)
 · cases hr
def fS : Nat -> RS -> RS
 | 0, s => s
 | 1, s => Jb 1 s
 | n + 2, s => Jb 8 (fS (n + 1) s)
def Z9 (c : Int) (s : RS) : RS := ⟨s.b, bif s.e == 0 then c else s.e⟩
def txR : Nat -> RS -> RS
 | 0, s => s
 | n + 1, s => txR n (Qd s)
def JBP (s : RS) : Int := JA 1 (fS 13 s)
def JGQ (s : RS) : Nat := bif decide (JBP s > 4) then 0 else (JBP s).toNat
def JGR (s : RS) : RS := bif decide (JBP s > 4) then Z9 4 (Jb 1 (fS 13 s)) else Jb 1 (fS 13 s)
def JBQ : RS -> List Int := hid fun s => hashV (txR (JGQ s) (JGR s))
theorem Jwx (s : RS) : JBQ s = hashV (txR (JGQ s) (JGR s)) := by rw [JBQ, hid_eq]
@[simp] theorem Jzh (s : RS) : (JBQ s).length = 32 := by rw [Jwx]; exact hashV_length _
theorem Qk {s : RS} (h : byB s.b = true) (n : Nat) : byB (Jb n s).b = true := by rw [XW]; exact YS h n
theorem JoG {s : RS} (h : byB s.b = true) : byB (Qd s).b = true := by rw [Jdu]; exact YS (YS h 2) _
theorem Va : ∀ l : List PV, (JW l).length = l.length
 | [] => rfl
 | p :: ps => by simp [JW, Va ps]
theorem Jgt {s : RS} (h : byB s.b = true) : (JT s).size <= 65535 := by
 rw [Jhs]
 show (JW _).length <= _
 rw [Va]
 have h1 := WY (WN 2 s).toNat (Qj 2 s)
 have h2 := XX h (n := 2) (Nat.le_refl 2)
 omega
theorem Yo (t : ByteArray) : (Ji t).length = t.size := by simp only [Ji, List.length_map, Array.length_toList]; rfl
def X0 (x m : Int) : Bool := decide (x >= 0) && decide (x <= m)
def JMP (fr to wh wn cd cu ve co ad au su er : Int) : Bool := X0 fr 2 && (X0 to 2 && (!(fr == to) && (X0 wh 2 && (X0 wn 99 && (X0 cd 2 && (X0 cu 7 && (X0 ad 2 && (X0 au 7 && (X0 ve 1073741824 && (X0 co 1073741824 && (X0 su 1073741824 && X0 er 255)))))))))))
def JMQ (kd fr to wh wn cd cu ve co ad au su er : Int) : Int := bif X0 (IntKind.i64.wrap (kd - 1)) 4 then (bif JMP fr to wh wn cd cu ve co ad au su er then 0 else 1) else 3
structure C13 where
 (kd fr to wh wn cd cu ve co ad au su er : Int)
def chk : C13 -> Int := hid fun c => JMQ c.kd c.fr c.to c.wh c.wn c.cd c.cu c.ve c.co c.ad c.au c.su c.er
def JjS (l : List PV) (d : Int) : PV := bif X0 d 2 then l.getD d.toNat .top else .ro 5 true true []
structure K3 where
 (l : List PV) (d : Int)
def JhM : K3 -> List PV := hid fun c => (JjS c.l c.d).els
theorem JoH (c : K3) : JhM c = (JjS c.l c.d).els := by rw [JhM, hid_eq]
def JGS : Fns := F0
theorem Jwy : Jq tau Try.prog JGS := Js
def Jso : An := (.seq .leaf (.seq (.seq .leaf (.cond .leaf .leaf)) (.seq (.seq .leaf (.seq .leaf (.cond .leaf .leaf))) (.seq .leaf .leaf))))
def JGT (f : Nat) (n : Int) (k : KR) : OR := bif decide (n < 0) then none else bif decide (IntKind.i64.wrap (n - IntKind.i64.wrap (zi 0 - zi 0)) > 0) then bif decide (0 <= IntKind.i64.wrap (n - IntKind.i64.wrap (zi 0 - zi 0))) && Je (IntKind.i64.wrap (n - IntKind.i64.wrap (zi 0 - zi 0))).toNat 1 && true then k (Res.mk (.ow 5 16 [] 0 0 none) [] [.vec false 5 (IntKind.i64.wrap (n - IntKind.i64.wrap (zi 0 - zi 0)) == 0) (List.replicate (IntKind.i64.wrap (n - IntKind.i64.wrap (zi 0 - zi 0))).toNat (.sc (.int .u8 0)))]) else none else k (Res.mk (.ro 5 true true []) [] [])
theorem JMR (f : Nat) (n : Int) (k : KR) : JJ tau JGS Try.f114 (Try.f114.body.get!) Jso [] 0 [.ro 5 true true [], .sc (.int .i64 n)] [] k = JGT f n k := by kernel_rfl
theorem JGU (f : Nat) : ∀ q ∈ Jg (Try.f114.body.get!) Jso, q.Ok tau Try.prog 0 := Jw (by kernel_rfl)
theorem Jzi : Try.prog.funcs[114]? = some Try.f114 := by kernel_rfl
theorem Jzj : Try.f114.body = some (Try.f114.body.get!) := by kernel_rfl
theorem JGV : Enters Try.prog 114 := enters_of Jzi (by kernel_rfl) Jzj
def JlO : Jz
 | [.ro 5 true true [], .sc (.int .i64 n)], [], k => JGT 0 n k
 | _, _, _ => none
def JGW : Sig := { own := [], run := JlO }
theorem JGX : Jc tau Try.prog 114 JGW := JO Jn Jwy Jo Jzi Jzj Jso [] 0 [] JlO (JGU 0) fun xs es k res hr => by
 unfold JlO at hr
 split at hr
 · exact ⟨rfl, 0, (JMR 0 _  _).trans hr⟩
 · cases hr
def N79 : Nat := 36
def F79 : Fns := Jt 114 JGW (F0)
theorem JlP : Jq tau Try.prog F79 := (Js).add JGX JGV
def JoI : Code := Qf (Try.f79.body.get!) [1, 1, 0, 1, 0, 0]
def Jex : Nm := [(0, .any), (3, .any), (9, .any), (10, .any), (11, .any)]
def JlQ : Nm := [(0, .any), (3, .any)]
def Jsp : An := (.seq .leaf (.seq (.cond .leaf .leaf) (.seq (.block none (.seq .leaf (.seq .leaf (.seq .leaf (.cond .leaf .leaf))))) .leaf)))
def Jgu : Code := Qf (Try.f79.body.get!) [1, 1, 1, 1, 0, 1, 0, 0]
def Zh : Nm := [(6, .own), (25, .any), (26, .any), (27, .any)]
def Vb : Nm := [(6, .any)]
def JjT : An := (.seq .leaf (.seq (.cond .leaf .leaf) (.seq (.block none (.seq .leaf .leaf)) .leaf)))
def Jwz (r0 : Qw) (r1 : Qw) : An := (.seq .leaf (.seq .leaf (.seq (.seq .leaf (.block none (.sum Jex N79 r0))) (.seq .leaf (.seq (.seq .leaf (.block none (.sum Zh N79 r1))) (.seq .leaf .leaf))))))
abbrev Jsq := Bool -> Bool -> List PV -> Int -> Bool -> Bool -> List PV -> Int -> Int -> OR
def JaR (f : Nat) (rc : Jsq) (k0 : Bool -> Bool -> List PV -> Int -> OR) (v0 v1 : Bool) (v2 : List PV) (v3 : Int) (v4 v5 : Bool) (v6 : List PV) (v7 v8 : Int) : OR := bif decide (v8 < v7) then bif decide (0 <= v8) && decide (v8 < zi v6.length) && PV.isRo 5 (v6.getD v8.toNat PV.top) && true then bif decide (IntKind.i64.wrap (v3 + zi (v6.getD v8.toNat PV.top).els.length) < 0) then none else rc v0 v1 v2 (IntKind.i64.wrap (v3 + zi (v6.getD v8.toNat PV.top).els.length)) v4 v5 v6 v7 (IntKind.i64.wrap (v8 + 1)) else none else k0 v0 v1 v2 v3
def GB (f : Nat) (k0 : Bool -> Bool -> List PV -> Int -> OR) : Nat -> Jsq
 | 0 => fun _ _ _ _ _ _ _ _ _ => none
 | n + 1 => JaR f (GB f k0 n) k0
def JaS (k : Kont) := fun x0 x1 x2 x3 => k (Ex.exit 0) (Jj JlQ N79 [.ro 29 x0 x1 x2, .sc (.int .i64 x3)] [])
def JlR (f : Nat) (k : Kont) (n : Nat) (v0 v1 : Bool) (v2 : List PV) (v3 : Int) (v4 v5 : Bool) (v6 : List PV) (v7 v8 : Int) : OR := Jy tau 0 Jex (fun s k => ev tau F79 0 0 JoI (Jsp ) s k) n (Jj Jex N79 [.ro 29 v0 v1 v2, .sc (.int .i64 v3), .ro 29 v4 v5 v6, .sc (.int .i64 v7), .sc (.int .i64 v8)] []) (JG tau 0 JlQ k)
theorem JwA (f : Nat) (k : Kont) (n : Nat) : JlR f k (n + 1) = JaR f (JlR f k n) (JaS k) := by kernel_rfl
theorem JoJ (f : Nat) (k : Kont) : ∀ n, JlR f k n = GB f (JaS k) n
 | 0 => rfl
 | n + 1 => (JwA f k n).trans (congrArg (fun r => JaR f r (JaS k)) (JoJ f k n))
def Jey (f : Nat) : List PV -> List (Nat × Ent) -> Kont -> OR
 | [.ro 29 v0 v1 v2, .sc (.int .i64 v3), .ro 29 v4 v5 v6, .sc (.int .i64 v7),
 .sc (.int .i64 v8)], [], k => GB f (JaS k) f v0 v1 v2 v3 v4 v5 v6 v7 v8
 | _, _, _ => none
theorem JBR (f : Nat) : Jg JoI Jsp = [] := by kernel_rfl
theorem JBS (f : Nat) : (Item.l JoI Jex N79 (Jey f)).Ok tau Try.prog 0 := Ju Jn JlP Jo (x := Jsp) (nm2 := JlQ) (Jk _ _ (by rw [JBR f]; intro q hq; cases hq)) fun vs hp k res hr => by
 unfold Jey at hr
 split at hr
 · rw [← JoJ f] at hr; exact ⟨f, 0, hr⟩
 · cases hr
def JaT (f : Nat) (rc : Nat -> Bool -> Bool -> List PV -> Int -> Int -> Bool -> List PV -> OR) (k0 : Nat -> Bool -> List PV -> OR) (v0 : Nat) (v1 v2 : Bool) (v3 : List PV) (v4 v5 : Int) (v6 : Bool) (v7 : List PV) : OR := bif decide (v5 < v4) then bif decide (0 <= v5) && decide (v5 < zi v3.length) && PV.isRo 5 (v3.getD v5.toNat PV.top) && true then bif Je (v0 + (v3.getD v5.toNat PV.top).els.length) 1 && true then rc (v0 + (v3.getD v5.toNat PV.top).els.length) v1 v2 v3 v4 (IntKind.i64.wrap (v5 + 1)) (v6 && (v3.getD v5.toNat PV.top).els.isEmpty) (List.take v0 v7 ++ (v3.getD v5.toNat PV.top).els) else none else none else k0 v0 v6 v7
def Yz (f : Nat) (k0 : Nat -> Bool -> List PV -> OR) : Nat -> Nat -> Bool -> Bool -> List PV -> Int -> Int -> Bool -> List PV -> OR
 | 0, _, _, _, _, _, _, _, _ => none
 | n + 1, v0, v1, v2, v3, v4, v5, v6, v7 => JaT f (Yz f k0 n) k0 v0 v1 v2 v3 v4 v5 v6 v7
theorem JwB (f : Nat) (k : Kont) (n v0 : Nat) (v1 v2 : Bool) (v3 : List PV) (v4 v5 : Int) (v6 : Bool) (v7 : List PV) : Jy tau 0 Zh (fun s k => ev tau F79 0 0 Jgu (JjT ) s k) (n + 1) (Jj Zh N79 [.ow 5 592 [] 0 v0 none, .ro 29 v1 v2 v3, .sc (.int .i64 v4), .sc (.int .i64 v5)] [(592, .vec false 5 v6 v7)]) (JG tau 0 Vb k) = JaT f (fun v0 v1 v2 v3 v4 v5 v6 v7 => Jy tau 0 Zh (fun s k => ev tau F79 0 0 Jgu (JjT ) s k) n (Jj Zh N79 [.ow 5 592 [] 0 v0 none, .ro 29 v1 v2 v3, .sc (.int .i64 v4), .sc (.int .i64 v5)] [(592, .vec false 5 v6 v7)]) (JG tau 0 Vb k)) (fun x0 x1 x2 => k (Ex.exit 2) (Jj Vb N79 [.ow 5 592 [] 0 x0 none] [(592, .vec false 5 x1 x2)])) v0 v1 v2 v3 v4 v5 v6 v7 := by kernel_rfl
theorem JoK (f : Nat) (k : Kont) : ∀ (n v0 : Nat) (v1 v2 : Bool) (v3 : List PV) (v4 v5 : Int) (v6 : Bool) (v7 : List PV), Jy tau 0 Zh (fun s k => ev tau F79 0 0 Jgu (JjT ) s k) n (Jj Zh N79 [.ow 5 592 [] 0 v0 none, .ro 29 v1 v2 v3, .sc (.int .i64 v4), .sc (.int .i64 v5)] [(592, .vec false 5 v6 v7)]) (JG tau 0 Vb k) = Yz f (fun x0 x1 x2 => k (Ex.exit 2) (Jj Vb N79 [.ow 5 592 [] 0 x0 none] [(592, .vec false 5 x1 x2)])) n v0 v1 v2 v3 v4 v5 v6 v7 | 0, _, _, _, _, _, _, _, _ => rfl | n + 1, v0, v1, v2, v3, v4, v5, v6, v7 => (JwB f k n v0 v1 v2 v3 v4 v5 v6 v7).trans (congrArg (fun r => JaT f r (fun x0 x1 x2 => k (Ex.exit 2) (Jj Vb N79 [.ow 5 592 [] 0 x0 none] [(592, .vec false 5 x1 x2)])) v0 v1 v2 v3 v4 v5 v6 v7) (by funext v0 v1 v2 v3 v4 v5 v6 v7; exact JoK f k n v0 v1 v2 v3 v4 v5 v6 v7))
def Jez (f : Nat) : List PV -> List (Nat × Ent) -> Kont -> OR
 | [.ow 5 592 [] 0 v0 none, .ro 29 v1 v2 v3, .sc (.int .i64 v4),
 PV.sc
  (Value.int IntKind.i64
   v5)], [(592, .vec false 5 v6 v7)], k => Yz f (fun x0 x1 x2 => k (Ex.exit 2) (Jj Vb N79 [.ow 5 592 [] 0 x0 none] [(592, .vec false 5 x1 x2)])) f v0 v1 v2 v3 v4 v5 v6 v7
 | _, _, _ => none
theorem JBT (f : Nat) : Jg Jgu JjT = [] := by kernel_rfl
theorem JBU (f : Nat) : (Item.l Jgu Zh N79 (Jez f)).Ok tau Try.prog 0 := Ju Jn JlP Jo (x := JjT) (nm2 := Vb) (Jk _ _ (by rw [JBT f]; intro q hq; cases hq)) fun vs hp k res hr => by
 unfold Jez at hr
 split at hr
 · exact ⟨f, 0, (JoK f _ f _ _ _ _ _ _ _ _ ).trans hr⟩
 · cases hr
def g79 (f : Nat) (y0 y1 : Bool) (slices : List PV) (k : KR) : OR := GB f (fun x0_0 x1_0 x2_0 x3_0 => bif decide (x3_0 < 0) then none else bif decide (IntKind.i64.wrap (x3_0 - IntKind.i64.wrap (zi 0 - zi 0)) > 0) then bif decide (0 <= IntKind.i64.wrap (x3_0 - IntKind.i64.wrap (zi 0 - zi 0))) && Je (IntKind.i64.wrap (x3_0 - IntKind.i64.wrap (zi 0 - zi 0))).toNat 1 && true then Yz f (fun x0_1 x1_1 x2_1 => k (Res.mk (.ow 5 16 [] 0 x0_1 none) [] [.vec false 5 x1_1 x2_1])) f (0) x0_0 x1_0 x2_0 (zi x2_0.length) (0) (IntKind.i64.wrap (x3_0 - IntKind.i64.wrap (zi 0 - zi 0)) == 0) (List.replicate (IntKind.i64.wrap (x3_0 - IntKind.i64.wrap (zi 0 - zi 0))).toNat (.sc (.int .u8 0))) else none else Yz f (fun x0_2 x1_2 x2_2 => k (Res.mk (.ow 5 16 [] 0 x0_2 none) [] [.vec false 5 x1_2 x2_2])) f (0) x0_0 x1_0 x2_0 (zi x2_0.length) (0) true ([])) f y0 y1 slices (0) y0 y1 slices (zi slices.length) (0)
theorem e79 (f : Nat) (y0 y1 : Bool) (slices : List PV) (k : KR) : JJ tau F79 Try.f79 (Try.f79.body.get!) (Jwz (Jey f) (Jez f)) [] 0 [.ro 29 y0 y1 slices] [] k = g79 f y0 y1 slices k := by kernel_rfl
theorem JMS (f : Nat) : Jg (Try.f79.body.get!) (Jwz (Jey f) (Jez f)) = [.l JoI Jex N79 (Jey f), .l Jgu Zh N79 (Jez f)] := by kernel_rfl
theorem JMT (f : Nat) : ∀ q ∈ Jg (Try.f79.body.get!) (Jwz (Jey f) (Jez f)), q.Ok tau Try.prog 0 := by rw [JMS f]; exact JL (JBS f) (JL (JBU f) (fun _ h => nomatch h))
theorem JGY : Try.prog.funcs[79]? = some Try.f79 := by kernel_rfl
theorem JGZ : Try.f79.body = some (Try.f79.body.get!) := by kernel_rfl
theorem JBV : Enters Try.prog 79 := enters_of JGY (by kernel_rfl) JGZ
def JH (l : List PV) : List PV := (l.map PV.els).flatten
@[simp] theorem JaU : JH [] = [] := rfl
@[simp] theorem XM (p : PV) (l : List PV) : JH (p :: l) = p.els ++ JH l := by simp [JH]
theorem Jc6 (a b : List PV) : JH (a ++ b) = JH a ++ JH b := by simp [JH]
theorem JeA (l : List PV) (i : Nat) (h : i < l.length) : l.take (i + 1) = l.take i ++ [l.getD i .top] := by
 rw [List.take_add_one, List.getD_eq_getElem?_getD, List.getElem?_eq_getElem h]; rfl
theorem JeB (l : List PV) (i : Nat) (h : i < l.length) : l.drop i = l.getD i .top :: l.drop (i + 1) := by
 rw [List.drop_eq_getElem_cons h, List.getD_eq_getElem?_getD, List.getElem?_eq_getElem h]; rfl
theorem XN (l : List PV) (i : Nat) (h : i < l.length) : JH (l.take (i + 1)) = JH (l.take i) ++ (l.getD i .top).els := by
 rw [JeA l i h, Jc6, XM, JaU, List.append_nil]
theorem XC (l : List PV) (i : Nat) : (JH (l.take i)).length <= (JH l).length := by
 have : JH l = JH (l.take i) ++ JH (l.drop i) := by rw [← Jc6, List.take_append_drop]
 rw [this, List.length_append]; omega
theorem Jgv {l : List PV} (h : l.all (PV.isRo 5) = true) {i : Nat} (hi : i < l.length) : (l.getD i .top).isRo 5 = true := by
 rw [List.getD_eq_getElem?_getD, List.getElem?_eq_getElem hi]
 exact List.all_eq_true.1 h _ (List.getElem_mem hi)
theorem Jc7 {α : Type} (a b : List α) : (a ++ b).isEmpty = (a.isEmpty && b.isEmpty) := by cases a <;> rfl
theorem Jzk (f : Nat) (k0 : Bool -> Bool -> List PV -> Int -> OR) (a b : Bool) (c : List PV) (nl fl : Bool) (l : List PV) (hl : l.all (PV.isRo 5) = true) (hs : (JH l).length <= 140737488355328) (hn : l.length <= 140737488355328) : ∀ (d i n : Nat), i + d = l.length -> d < n ->
  GB f k0 n a b c ((JH (l.take i)).length : Int) nl fl l (l.length : Int) (i : Int) = k0 a b c ((JH l).length : Int)
 | 0, i, n + 1, h, hd => by
   obtain rfl : i = l.length := by omega
   simp only [GB, JaR]
   exact (Jd (by simp)).trans (by rw [List.take_length])
 | d + 1, i, n + 1, h, hd => by
   have hle := XC l (i + 1)
   have hadd : (JH (l.take (i + 1))).length = (JH (l.take i)).length + (l.getD i .top).els.length := by rw [XN l i (by omega), List.length_append]
   have h1 := wI (i := i) (by omega)
   have h2 : IntKind.i64.wrap (((JH (l.take i)).length : Int) + ((l.getD i .top).els.length : Int)) = ((JH (l.take (i + 1))).length : Int) := by rw [wrap_i64 (by omega) (by omega)]; omega
   simp only [GB, JaR, zi, Int.toNat_natCast, h1, h2]
   refine (Ja (by simp <;> omega)).trans ?_
   refine (Ja (by rw [Jgv hl (by omega)]; simp; omega)).trans ?_
   refine (Jd (by simp <;> omega)).trans ?_
   exact Jzk f k0 a b c nl fl l hl hs hn d (i + 1) n (by omega) (by omega)
theorem Jsr (f : Nat) (k0 : Nat -> Bool -> List PV -> OR) (nl fl : Bool) (l : List PV) (hl : l.all (PV.isRo 5) = true) (hs : (JH l).length <= 140737488355328) (hn : l.length <= 140737488355328) : ∀ (d i n : Nat) (z : Bool) (v : List PV), i + d = l.length -> d < n -> v.take (JH (l.take i)).length = JH (l.take i) -> (d = 0 -> v = JH l) ->
  Yz f k0 n (JH (l.take i)).length nl fl l (l.length : Int) (i : Int) z v = k0 (JH l).length (z && (JH (l.drop i)).isEmpty) (JH l)
 | 0, i, n + 1, z, v, h, hd, hv, h0 => by
   obtain rfl : i = l.length := by omega
   simp only [Yz, JaT]
   refine (Jd (by simp)).trans ?_
   rw [List.take_length, h0 rfl, List.drop_length]; simp
 | d + 1, i, n + 1, z, v, h, hd, hv, h0 => by
   have hle := XC l (i + 1)
   have hadd : (JH (l.take (i + 1))).length = (JH (l.take i)).length + (l.getD i .top).els.length := by rw [XN l i (by omega), List.length_append]
   have h1 := wI (i := i) (by omega)
   simp only [Yz, JaT, zi, Int.toNat_natCast, h1, hv]
   refine (Ja (by simp <;> omega)).trans ?_
   refine (Ja (by rw [Jgv hl (by omega)]; simp; omega)).trans ?_
   refine (Ja (by simp only [Je, Bool.and_true, decide_eq_true_eq]; omega)).trans ?_
   have := Jsr f k0 nl fl l hl hs hn d (i + 1) n (z && (l.getD i .top).els.isEmpty) (JH (l.take (i + 1))) (by omega) (by omega) (List.take_length) (fun hd0 => by rw [show i + 1 = l.length from by omega, List.take_length])
   rw [hadd, XN l i (by omega)] at this
   rw [this, JeB l i (by omega), XM, Jc7, Bool.and_assoc]
def JlS : Jz
 | [.ro 29 nl fl l], [], k => bif l.all (PV.isRo 5) && (decide ((JH l).length <= 140737488355328) && decide (l.length <= 140737488355328)) then k ⟨.ow 5 16 [] 0 (JH l).length none, [], [.vec false 5 (JH l).isEmpty (JH l)]⟩ else none
 | _, _, _ => none
def JwC : Sig := { own := [], run := JlS }
theorem JBW (nl fl : Bool) (l : List PV) (k : KR) (hl : l.all (PV.isRo 5) = true) (hs : (JH l).length <= 140737488355328) (hn : l.length <= 140737488355328) :
  g79 (l.length + 1) nl fl l k = k ⟨.ow 5 16 [] 0 (JH l).length none, [], [.vec false 5 (JH l).isEmpty (JH l)]⟩ := by
 have h0 := Jzk (l.length + 1) (fun x0_0 x1_0 x2_0 x3_0 =>
  bif decide (x3_0 < 0) then
   none
  else bif decide (IntKind.i64.wrap (x3_0 - IntKind.i64.wrap (zi 0 - zi 0)) > 0) then
   bif decide (0 <= IntKind.i64.wrap (x3_0 - IntKind.i64.wrap (zi 0 - zi 0))) && Je (IntKind.i64.wrap (x3_0 - IntKind.i64.wrap (zi 0 - zi 0))).toNat 1 && true then
    Yz (l.length + 1) (fun x0_1 x1_1 x2_1 =>
     k (Res.mk (PV.ow 5 16 [] 0 x0_1 none) []
      [Ent.vec false 5 x1_1
       x2_1])) (l.length + 1) (0) x0_0 x1_0 x2_0 (zi
     x2_0.length) (0) (IntKind.i64.wrap (x3_0 - IntKind.i64.wrap (zi 0 - zi 0)) ==
     0) (List.replicate (IntKind.i64.wrap (x3_0 - IntKind.i64.wrap (zi 0 - zi 0))).toNat (PV.sc (Value.int IntKind.u8 0)))
   else none
  else Yz (l.length + 1) (fun x0_2 x1_2 x2_2 =>
   k (Res.mk (PV.ow 5 16 [] 0 x0_2 none) [] [Ent.vec false 5 x1_2 x2_2])) (l.length + 1) (0) x0_0 x1_0 x2_0 (zi x2_0.length) (0) true ([])) nl fl l nl fl l hl hs hn l.length 0 (l.length + 1) (by omega) (by omega)
 refine h0.trans ?_
 have hw : IntKind.i64.wrap (((JH l).length : Int) - IntKind.i64.wrap (zi 0 - zi 0)) = ((JH l).length : Int) := by
  have : IntKind.i64.wrap (zi 0 - zi 0) = 0 := by decide
  rw [this, wrap_i64 (by omega) (by omega)]; omega
 simp only [hw]
 refine (Jd (by simp <;> omega)).trans ?_
 cases he : (JH l).isEmpty with
 | true =>
  have he' : JH l = [] := by simpa using he
  refine (Jd (by simp [he'])).trans ?_
  have := Jsr (l.length + 1) (fun x0_2 x1_2 x2_2 => k (Res.mk (PV.ow 5 16 [] 0 x0_2 none) [] [Ent.vec false 5 x1_2 x2_2])) nl fl l hl hs hn l.length 0 (l.length + 1) true [] (by omega) (by omega) (by simp) (fun _ => he'.symm)
  refine this.trans ?_
  simp [he']
 | false =>
  have he' : JH l ≠ [] := by simpa using he
  have hpos : 0 < (JH l).length := List.length_pos_iff.2 he'
  have hl0 : l.length ≠ 0 := by
   intro h; rw [List.length_eq_zero_iff] at h; subst h; simp at he'
  refine (Ja (by simp <;> omega)).trans ?_
  refine (Ja (by simp [Je] <;> omega)).trans ?_
  have := Jsr (l.length + 1) (fun x0_2 x1_2 x2_2 => k (Res.mk (PV.ow 5 16 [] 0 x0_2 none) [] [Ent.vec false 5 x1_2 x2_2])) nl fl l hl hs hn l.length 0 (l.length + 1) (((JH l).length : Int) == 0) (List.replicate (((JH l).length : Int)).toNat (PV.sc (Value.int IntKind.u8 0))) (by omega) (by omega) (by simp) (fun h => absurd h hl0)
  refine this.trans ?_
  have hz : (((JH l).length : Int) == 0) = false := by simp [he']
  rw [hz]; rfl
theorem Jss : Jc tau Try.prog 79 JwC := Jhj Jn JlP Jo JGY JGZ (fun n => Jwz (Jey n) (Jez n)) [] 0 [] JlS (fun n => JMT n) fun xs es k res hr => by
 unfold JlS at hr
 split at hr
 · rename_i nl fl l
   obtain ⟨hc, hr⟩ := Jv hr
   simp only [Bool.and_eq_true, decide_eq_true_eq] at hc
   refine ⟨rfl, l.length + 1, 0, (e79 _ _ _ _ _).trans ?_⟩
   rw [JBW _ _ _ _ hc.1 hc.2.1 hc.2.2]; exact hr
 · cases hr
def Jzl : Fns := Jt 79 JwC (F0)
theorem Jst : Jq tau Try.prog Jzl := (Js).add Jss JBV
def JlT : An := (.seq .leaf (.seq .leaf .leaf))
def Jsu (f : Nat) (b_z b_f : Bool) (b : List PV) (n : Int) (k : KR) : OR := bif decide ((JH [.ro 5 b_z b_f b, .ro 5 false false [.sc (.int .u8 (IntKind.u8.wrap n))]]).length <= 140737488355328) && true then k (Res.mk (.ow 5 16 [] 0 (JH [.ro 5 b_z b_f b, .ro 5 false false [.sc (.int .u8 (IntKind.u8.wrap n))]]).length none) [] [.vec false 5 (JH [.ro 5 b_z b_f b, .ro 5 false false [.sc (.int .u8 (IntKind.u8.wrap n))]]).isEmpty (JH [.ro 5 b_z b_f b, .ro 5 false false [.sc (.int .u8 (IntKind.u8.wrap n))]])]) else none
theorem JG0 (f : Nat) (b_z b_f : Bool) (b : List PV) (n : Int) (k : KR) : JJ tau Jzl Try.f130 (Try.f130.body.get!) JlT [] 0 [.ro 5 b_z b_f b, .sc (.int .i64 n)] [] k = Jsu f b_z b_f b n k := by kernel_rfl
theorem JBX (f : Nat) : ∀ q ∈ Jg (Try.f130.body.get!) JlT, q.Ok tau Try.prog 0 := Jw (by kernel_rfl)
theorem JBY : Try.prog.funcs[130]? = some Try.f130 := by kernel_rfl
theorem JBZ : Try.f130.body = some (Try.f130.body.get!) := by kernel_rfl
def JG1 : Fns := Jt 79 JwC (F0)
theorem JwD : Jq tau Try.prog JG1 := (Js).add Jss JBV
def Jsv : An := (.seq .leaf (.seq .leaf (.seq .leaf .leaf)))
abbrev VQ (s : ByteArray) := (s.extract 0 (Qh (zi s.size) 65535).toNat)
abbrev JaV (b_z : Bool) (b_f : Bool) (b : List PV) (s : ByteArray) := (JH [PV.ro 5 b_z b_f b, PV.ro 5 false false [PV.sc (.int .u8 (IntKind.u8.wrap (zi (VQ s).size))), PV.sc (.int .u8 (IntKind.u8.wrap (JV IntKind.i64 (zi (VQ s).size) 8)))], PV.ro 5 false false (List.take (VQ s).size (Ji (VQ s)))])
def JB0 (f : Nat) (b_z b_f : Bool) (b : List PV) (s : ByteArray) (k : KR) : OR := bif decide (0 <= Qh (zi s.size) 65535) && true && decide ((Qh (zi s.size) 65535).toNat <= s.size) && true then bif Je (VQ s).size 1 && true then bif decide ((JaV b_z b_f b s).length <= 140737488355328) && true then k (Res.mk (.ow 5 16 [] 0 (JaV b_z b_f b s).length none) [] [.vec false 5 (JaV b_z b_f b s).isEmpty (JaV b_z b_f b s)]) else none else none else none
theorem JMU (f : Nat) (b_z b_f : Bool) (b : List PV) (s : ByteArray) (k : KR) : JJ tau JG1 Try.f92 (Try.f92.body.get!) Jsv [] 0 [.ro 5 b_z b_f b, .sc (.string s)] [] k = JB0 f b_z b_f b s k := by kernel_rfl
theorem JG2 (f : Nat) : ∀ q ∈ Jg (Try.f92.body.get!) Jsv, q.Ok tau Try.prog 0 := Jw (by kernel_rfl)
theorem JG3 : Try.prog.funcs[92]? = some Try.f92 := by kernel_rfl
theorem JG4 : Try.f92.body = some (Try.f92.body.get!) := by kernel_rfl
theorem JG5 : Try.prog.funcs[130]? = some Try.f130 := by kernel_rfl
theorem JG6 : Try.f130.body = some (Try.f130.body.get!) := by kernel_rfl
theorem JG7 : Enters Try.prog 130 := enters_of JG5 (by kernel_rfl) JG6
theorem JMV : Try.prog.funcs[92]? = some Try.f92 := by kernel_rfl
theorem JMW : Try.f92.body = some (Try.f92.body.get!) := by kernel_rfl
theorem JG8 : Enters Try.prog 92 := enters_of JMV (by kernel_rfl) JMW
def JG9 : Fns := F0
theorem JwE : Jq tau Try.prog JG9 := Js
def Jsw : An := (.seq .leaf (.seq (.seq .leaf (.cond (.seq .leaf .leaf) .leaf)) (.seq .leaf .leaf)))
def JHa (f : Nat) (s_z s_f : Bool) (s : List PV) (k : KR) : OR := bif s_z then k (Res.mk (.ro 5 true true []) [] []) else bif Je (0 + s.length) 1 && true then k (Res.mk (.ow 5 16 [] 0 (0 + s.length) none) [] [.vec false 5 false s]) else none
theorem JMX (f : Nat) (s_z s_f : Bool) (s : List PV) (k : KR) : JJ tau JG9 Try.f76 (Try.f76.body.get!) Jsw [] 0 [.ro 5 s_z s_f s] [] k = JHa f s_z s_f s k := by kernel_rfl
theorem JHb (f : Nat) : ∀ q ∈ Jg (Try.f76.body.get!) Jsw, q.Ok tau Try.prog 0 := Jw (by kernel_rfl)
theorem Jzm : Try.prog.funcs[76]? = some Try.f76 := by kernel_rfl
theorem Jzn : Try.f76.body = some (Try.f76.body.get!) := by kernel_rfl
theorem Jzo : Enters Try.prog 76 := enters_of Jzm (by kernel_rfl) Jzn
def JlU : Jz
 | [.ro 5 s_z s_f s], [], k => JHa 0 s_z s_f s k
 | _, _, _ => none
def JB1 : Sig := { own := [], run := JlU }
theorem Jzp : Jc tau Try.prog 76 JB1 := JO Jn JwE Jo Jzm Jzn Jsw [] 0 [] JlU (JHb 0) fun xs es k res hr => by
 unfold JlU at hr
 split at hr
 · exact ⟨rfl, 0, (JMX 0 _ _ _  _).trans hr⟩
 · cases hr
def F35 : Fns := Jt 76 JB1 (F0)
theorem JB2 : Jq tau Try.prog F35 := (Js).add Jzp Jzo
def JB3 : Nm := [(0, .any), (1, .any), (5, .own), (6, .any)]
def JHc : An := (.seq .leaf (.seq .leaf (.seq .leaf (.seq .leaf (.seq (.seq .leaf (.seq .leaf (.cond .leaf .leaf))) (.seq .leaf .leaf))))))
def JB4 : An := (.seq .leaf (.scope JB3 JHc))
abbrev JlV (n : Int) := (IntKind.u8.wrap (JV IntKind.u64 (IntKind.u64.wrap n) (IntKind.i64.wrap (8 * IntKind.i64.wrap (0 + 1)))))
abbrev JlW (n : Int) := (IntKind.u8.wrap (JV IntKind.u64 (IntKind.u64.wrap n) (IntKind.i64.wrap (8 * IntKind.i64.wrap (IntKind.i64.wrap (0 + 1) + 1)))))
abbrev JlX (n : Int) := (IntKind.u8.wrap (JV IntKind.u64 (IntKind.u64.wrap n) (IntKind.i64.wrap (8 * IntKind.i64.wrap (IntKind.i64.wrap (IntKind.i64.wrap (0 + 1) + 1) + 1)))))
abbrev JeC := (IntKind.i64.wrap (IntKind.i64.wrap (IntKind.i64.wrap (0 + 1) + 1) + 1) + 1)
abbrev JlY (n : Int) := (IntKind.u8.wrap (JV IntKind.u64 (IntKind.u64.wrap n) (IntKind.i64.wrap (8 * IntKind.i64.wrap JeC))))
abbrev JlZ (n : Int) := (IntKind.u8.wrap (JV IntKind.u64 (IntKind.u64.wrap n) (IntKind.i64.wrap (8 * IntKind.i64.wrap (IntKind.i64.wrap JeC + 1)))))
abbrev Jl0 (n : Int) := (IntKind.u8.wrap (JV IntKind.u64 (IntKind.u64.wrap n) (IntKind.i64.wrap (8 * IntKind.i64.wrap (IntKind.i64.wrap (IntKind.i64.wrap JeC + 1) + 1)))))
abbrev Jl1 (n : Int) := (IntKind.u8.wrap (JV IntKind.u64 (IntKind.u64.wrap n) (IntKind.i64.wrap (8 * IntKind.i64.wrap (IntKind.i64.wrap (IntKind.i64.wrap (IntKind.i64.wrap JeC + 1) + 1) + 1)))))
abbrev JhN (b : List PV) (n : Int) := (List.take (0 + b.length + 1 + 1 + 1 + 1 + 1 + 1 + 1 + 1) (List.take (0 + b.length + 1 + 1 + 1 + 1 + 1 + 1 + 1) (List.take (0 + b.length + 1 + 1 + 1 + 1 + 1 + 1) (List.take (0 + b.length + 1 + 1 + 1 + 1 + 1) (List.take (0 + b.length + 1 + 1 + 1 + 1) (List.take (0 + b.length + 1 + 1 + 1) (List.take (0 + b.length + 1 + 1) (List.take (0 + b.length + 1) (List.take (0 + b.length) b ++ [PV.sc (.int .u8 (IntKind.u8.wrap (JV IntKind.u64 (IntKind.u64.wrap n) (IntKind.i64.wrap (8 * 0)))))]) ++ [PV.sc (.int .u8 (JlV n))]) ++ [PV.sc (.int .u8 (JlW n))]) ++ [PV.sc (.int .u8 (JlX n))]) ++ [PV.sc (.int .u8 (JlY n))]) ++ [PV.sc (.int .u8 (JlZ n))]) ++ [PV.sc (.int .u8 (Jl0 n))]) ++ [PV.sc (.int .u8 (Jl1 n))]))
def g35 (f : Nat) (b_z b_f : Bool) (b : List PV) (n : Int) (k : KR) : OR := bif b_z then k (Res.mk (.ro 5 false false [.sc (.int .u8 (IntKind.u8.wrap (JV IntKind.u64 (IntKind.u64.wrap n) (IntKind.i64.wrap (8 * 0))))), .sc (.int .u8 (JlV n)), .sc (.int .u8 (JlW n)), .sc (.int .u8 (JlX n)), .sc (.int .u8 (JlY n)), .sc (.int .u8 (JlZ n)), .sc (.int .u8 (Jl0 n)), .sc (.int .u8 (Jl1 n))]) [] []) else bif Je (0 + b.length) 1 && true then bif Je (0 + b.length + 1) 1 && true then bif Je (0 + b.length + 1 + 1) 1 && true then bif Je (0 + b.length + 1 + 1 + 1) 1 && true then bif Je (0 + b.length + 1 + 1 + 1 + 1) 1 && true then bif Je (0 + b.length + 1 + 1 + 1 + 1 + 1) 1 && true then bif Je (0 + b.length + 1 + 1 + 1 + 1 + 1 + 1) 1 && true then bif Je (0 + b.length + 1 + 1 + 1 + 1 + 1 + 1 + 1) 1 && true then bif Je (0 + b.length + 1 + 1 + 1 + 1 + 1 + 1 + 1 + 1) 1 && true then bif Je (0 + (JhN b n).length) 1 && true then k (Res.mk (.ro 5 false false (List.take (0 + (JhN b n).length) (JhN b n))) [] []) else none else none else none else none else none else none else none else none else none else none
theorem e35 (f : Nat) (b_z b_f : Bool) (b : List PV) (n : Int) (k : KR) : JJ tau F35 Try.f35 (Try.f35.body.get!) JB4 [.ro] 12 [.ro 5 b_z b_f b, .sc (.int .i64 n)] [] k = g35 f b_z b_f b n k := by kernel_rfl
theorem JMY (f : Nat) : ∀ q ∈ Jg (Try.f35.body.get!) JB4, q.Ok tau Try.prog 0 := Jw (by kernel_rfl)
theorem JHd : Try.prog.funcs[35]? = some Try.f35 := by kernel_rfl
theorem JHe : Try.f35.body = some (Try.f35.body.get!) := by kernel_rfl
theorem JB5 : Enters Try.prog 35 := enters_of JHd (by kernel_rfl) JHe
def JHf : Fns := F0
theorem JwF : Jq tau Try.prog JHf := Js
def Jsx : An := (.seq .leaf (.seq .leaf .leaf))
def JMZ (f : Nat) (n : Int) (k : KR) : OR := k (Res.mk (.ow 5 16 [] 0 1 none) [] [.vec false 5 false [.sc (.int .u8 (IntKind.u8.wrap n))]])
theorem JM0 (f : Nat) (n : Int) (k : KR) : JJ tau JHf Try.f105 (Try.f105.body.get!) Jsx [] 0 [.ro 5 true true [], .sc (.int .i64 n)] [] k = JMZ f n k := by kernel_rfl
theorem JHg (f : Nat) : ∀ q ∈ Jg (Try.f105.body.get!) Jsx, q.Ok tau Try.prog 0 := Jw (by kernel_rfl)
theorem Jzq : Try.prog.funcs[105]? = some Try.f105 := by kernel_rfl
theorem Jzr : Try.f105.body = some (Try.f105.body.get!) := by kernel_rfl
theorem Jzs : Enters Try.prog 105 := enters_of Jzq (by kernel_rfl) Jzr
end
end Go.Proofs.Ythpmachmnoljeaa.Rx
