/- What the functions of this law compute, and their plain laws. Conditions: none. -/
import Derived.Test.YthpmachmnoljeaaProg
import Derived.Test.YthpmachmnoljeaaWaveletChainZ4
namespace Go.Proofs.Ythpmachmnoljeaa.Rx
noncomputable section
open Go
set_option linter.unusedVariables false
set_option linter.unusedSimpArgs false
set_option maxRecDepth 100000
set_option maxHeartbeats 0
abbrev Jcb : List PV := [PV.sc (.int .u8 0), PV.sc (.int .u8 0), PV.sc (.int .u8 0), PV.sc (.int .u8 0), PV.sc (.int .u8 0), PV.sc (.int .u8 0), PV.sc (.int .u8 0), PV.sc (.int .u8 0), PV.sc (.int .u8 0), PV.sc (.int .u8 0), PV.sc (.int .u8 0), PV.sc (.int .u8 0), PV.sc (.int .u8 0), PV.sc (.int .u8 0), PV.sc (.int .u8 0), PV.sc (.int .u8 0), PV.sc (.int .u8 0), PV.sc (.int .u8 0), PV.sc (.int .u8 0), PV.sc (.int .u8 0), PV.sc (.int .u8 0), PV.sc (.int .u8 0), PV.sc (.int .u8 0), PV.sc (.int .u8 0), PV.sc (.int .u8 0), PV.sc (.int .u8 0), PV.sc (.int .u8 0), PV.sc (.int .u8 0), PV.sc (.int .u8 0), PV.sc (.int .u8 0), PV.sc (.int .u8 0), PV.sc (.int .u8 0)]
abbrev JAq : List PV := [PV.sc (.int .u8 0), PV.sc (.int .u8 0), PV.sc (.int .u8 0), PV.sc (.int .u8 0), PV.sc (.int .u8 0), PV.sc (.int .u8 0), PV.sc (.int .u8 0), PV.sc (.int .u8 0), PV.sc (.int .u8 0), PV.sc (.int .u8 0), PV.sc (.int .u8 0), PV.sc (.int .u8 0), PV.sc (.int .u8 0), PV.sc (.int .u8 0), PV.sc (.int .u8 0), PV.sc (.int .u8 0), PV.sc (.int .u8 0), PV.sc (.int .u8 0), PV.sc (.int .u8 0), PV.sc (.int .u8 0), PV.sc (.int .u8 0), PV.sc (.int .u8 0), PV.sc (.int .u8 0), PV.sc (.int .u8 0), PV.sc (.int .u8 0), PV.sc (.int .u8 0), PV.sc (.int .u8 0), PV.sc (.int .u8 0), PV.sc (.int .u8 0), PV.sc (.int .u8 0), PV.sc (.int .u8 0), PV.sc (.int .u8 0), PV.sc (.int .u8 0), PV.sc (.int .u8 0), PV.sc (.int .u8 0), PV.sc (.int .u8 0), PV.sc (.int .u8 0), PV.sc (.int .u8 0), PV.sc (.int .u8 0), PV.sc (.int .u8 0), PV.sc (.int .u8 0), PV.sc (.int .u8 0), PV.sc (.int .u8 0), PV.sc (.int .u8 0), PV.sc (.int .u8 0), PV.sc (.int .u8 0), PV.sc (.int .u8 0), PV.sc (.int .u8 0), PV.sc (.int .u8 0), PV.sc (.int .u8 0), PV.sc (.int .u8 0), PV.sc (.int .u8 0), PV.sc (.int .u8 0), PV.sc (.int .u8 0), PV.sc (.int .u8 0), PV.sc (.int .u8 0), PV.sc (.int .u8 0), PV.sc (.int .u8 0), PV.sc (.int .u8 0), PV.sc (.int .u8 0), PV.sc (.int .u8 0), PV.sc (.int .u8 0), PV.sc (.int .u8 0), PV.sc (.int .u8 0)]
abbrev Jn3 : List PV := [PV.sc (.int .u32 0), PV.sc (.int .u32 0), PV.sc (.int .u32 0), PV.sc (.int .u32 0), PV.sc (.int .u32 0), PV.sc (.int .u32 0), PV.sc (.int .u32 0), PV.sc (.int .u32 0), PV.sc (.int .u32 0), PV.sc (.int .u32 0), PV.sc (.int .u32 0), PV.sc (.int .u32 0), PV.sc (.int .u32 0), PV.sc (.int .u32 0), PV.sc (.int .u32 0), PV.sc (.int .u32 0), PV.sc (.int .u32 0), PV.sc (.int .u32 0), PV.sc (.int .u32 0), PV.sc (.int .u32 0), PV.sc (.int .u32 0), PV.sc (.int .u32 0), PV.sc (.int .u32 0), PV.sc (.int .u32 0), PV.sc (.int .u32 0), PV.sc (.int .u32 0), PV.sc (.int .u32 0), PV.sc (.int .u32 0), PV.sc (.int .u32 0), PV.sc (.int .u32 0), PV.sc (.int .u32 0), PV.sc (.int .u32 0), PV.sc (.int .u32 0), PV.sc (.int .u32 0), PV.sc (.int .u32 0), PV.sc (.int .u32 0), PV.sc (.int .u32 0), PV.sc (.int .u32 0), PV.sc (.int .u32 0), PV.sc (.int .u32 0), PV.sc (.int .u32 0), PV.sc (.int .u32 0), PV.sc (.int .u32 0), PV.sc (.int .u32 0), PV.sc (.int .u32 0), PV.sc (.int .u32 0), PV.sc (.int .u32 0), PV.sc (.int .u32 0), PV.sc (.int .u32 0), PV.sc (.int .u32 0), PV.sc (.int .u32 0), PV.sc (.int .u32 0), PV.sc (.int .u32 0), PV.sc (.int .u32 0), PV.sc (.int .u32 0), PV.sc (.int .u32 0), PV.sc (.int .u32 0), PV.sc (.int .u32 0), PV.sc (.int .u32 0), PV.sc (.int .u32 0), PV.sc (.int .u32 0), PV.sc (.int .u32 0), PV.sc (.int .u32 0), PV.sc (.int .u32 0)]
def tys : List TypeId := [1, 2, 3, 4, 5, 9, 12, 21, 22, 23, 24, 25, 26, 28, 29, 30, 31, 32, 33, 34, 35, 36, 37, 38, 39, 40, 41, 42, 43, 45, 46, 47, 48, 49, 50, 51, 52, 53, 55, 56, 57, 58, 59, 60, 61, 62, 63, 64, 65, 66, 67, 68, 69, 70, 72, 73, 74, 75, 76, 77, 78, 79, 80, 81, 83, 85, 86, 87, 88, 89, 90, 91, 92, 94, 95, 96, 97, 98, 99, 100, 101, 102, 103, 104, 105, 106, 107, 109, 110, 111, 112, 113, 114, 115, 116, 117, 118, 120, 122, 123, 124, 125, 126, 128, 129, 130, 131, 132, 133, 134, 135, 136, 137, 138, 139, 140, 141, 142, 143, 144, 145, 146, 148, 149, 150, 152, 154, 155, 156, 157, 158, 159, 160, 161, 162, 163, 164, 165, 166, 167, 168, 169, 170, 171, 172, 173, 174, 175, 176, 177, 178, 179, 180, 181, 182, 183, 185, 186, 187, 188, 189, 190, 191, 192, 201]
def JLj : TypeId -> Option PV := fun t =>
 bif [1, 23, 24, 28, 32, 40, 45, 55, 56, 59, 60, 61, 62, 63, 64, 65, 66, 67, 70, 72, 73, 74, 78, 79, 80, 81, 83, 85, 86, 87, 91, 92, 94, 95, 99, 100, 101, 103, 104, 105, 106, 107, 109, 110, 111, 114, 115, 116, 117, 118, 120, 122, 123, 124, 126, 128, 129, 130, 131, 132, 133, 136, 137, 138, 139, 144, 145, 146, 148, 149, 150, 152, 154, 155, 156, 157, 160, 161, 162, 163, 164, 168, 171, 172, 175, 176, 177, 178, 179, 180, 181, 182, 183, 185, 186, 187, 188, 189, 191, 192].elem t then some (.sc .nilFunc) else
 bif [2, 3, 43].elem t then some (.sc (.int .i64 0)) else
 bif t == 4 then some (.sc (.bool false)) else
 bif t == 5 then some (.sc (.int .u8 0)) else
 bif t == 9 then some (.sc (.string ByteArray.empty)) else
 bif [12, 140, 158].elem t then some (.sc (.int .u64 0)) else
 bif t == 21 then some (.sc (.int .i32 0)) else
 bif t == 22 then some (.ro 69 true true []) else
 bif t == 25 then some (.ro 51 true true []) else
 bif t == 26 then some (.ro 58 true true []) else
 bif t == 29 then some (.ro 5 true true []) else
 bif t == 30 then some (.st 30 (List.replicate 3 (.ro 5 true true []))) else
 bif t == 31 then some (.st 31 (List.replicate 3 (.ro 5 true true []))) else
 bif t == 33 then some (.st 33 [.sc (.int .i64 0), .sc (.int .i64 0)]) else
 bif t == 34 then some (.st 34 [.sc (.int .i64 0), .sc (.int .i64 0)]) else
 bif t == 35 then some (.ro 42 true true []) else
 bif t == 36 then some (.ar 36 (List.replicate 32 (.sc (.int .u8 0)))) else
 bif t == 37 then some (.ar 37 (List.replicate 32 (.sc (.int .u8 0)))) else
 bif t == 38 then some (.st 38 [.st 34 [.sc (.int .i64 0), .sc (.int .i64 0)], .sc (.string ByteArray.empty), .ro 42 true true [], .sc (.int .i64 0), .ar 37 (List.replicate 32 (.sc (.int .u8 0)))]) else
 bif t == 39 then some (.st 39 [.st 34 [.sc (.int .i64 0), .sc (.int .i64 0)], .sc (.string ByteArray.empty), .ro 42 true true [], .sc (.int .i64 0), .ar 37 (List.replicate 32 (.sc (.int .u8 0)))]) else
 bif t == 41 then some (.st 41 [.sc (.int .i64 0), .sc (.int .i64 0)]) else
 bif t == 42 then some (.st 42 [.sc (.int .i64 0), .sc (.int .i64 0)]) else
 bif t == 46 then some (.st 46 [.ro 5 true true [], .ar 37 (List.replicate 32 (.sc (.int .u8 0)))]) else
 bif t == 47 then some (.st 47 [.ro 5 true true [], .ar 37 (List.replicate 32 (.sc (.int .u8 0)))]) else
 bif [48, 49].elem t then some (.ro 113 true true []) else
 bif t == 50 then some (.st 50 [.st 47 [.ro 5 true true [], .ar 37 (List.replicate 32 (.sc (.int .u8 0)))], .sc (.int .i64 0), .ro 113 true true [], .ar 37 (List.replicate 32 (.sc (.int .u8 0))), .ar 37 (List.replicate 32 (.sc (.int .u8 0)))]) else
 bif t == 51 then some (.st 51 [.st 47 [.ro 5 true true [], .ar 37 (List.replicate 32 (.sc (.int .u8 0)))], .sc (.int .i64 0), .ro 113 true true [], .ar 37 (List.replicate 32 (.sc (.int .u8 0))), .ar 37 (List.replicate 32 (.sc (.int .u8 0)))]) else
 bif t == 52 then some (.st 52 [.st 42 [.sc (.int .i64 0), .sc (.int .i64 0)], .sc (.int .i64 0), .sc (.int .i64 0), .ar 37 (List.replicate 32 (.sc (.int .u8 0))), .sc (.int .i64 0), .ro 113 true true [], .st 42 [.sc (.int .i64 0), .sc (.int .i64 0)]]) else
 bif t == 53 then some (.st 53 [.st 42 [.sc (.int .i64 0), .sc (.int .i64 0)], .sc (.int .i64 0), .sc (.int .i64 0), .ar 37 (List.replicate 32 (.sc (.int .u8 0))), .sc (.int .i64 0), .ro 113 true true [], .st 42 [.sc (.int .i64 0), .sc (.int .i64 0)]]) else
 bif t == 57 then some (.ro 3 true true []) else
 bif t == 58 then some (.st 58 [.st 34 [.sc (.int .i64 0), .sc (.int .i64 0)], .sc (.string ByteArray.empty), .ro 42 true true [], .sc (.int .i64 0), .ar 37 (List.replicate 32 (.sc (.int .u8 0)))]) else
 bif t == 68 then some (.st 68 [.sc (.int .i64 0), .sc (.int .i64 0), .sc (.int .i64 0), .ro 3 true true []]) else
 bif t == 69 then some (.st 69 [.sc (.int .i64 0), .sc (.int .i64 0), .sc (.int .i64 0), .ro 3 true true []]) else
 bif t == 75 then some (.ro 29 true true []) else
 bif t == 76 then some (.st 76 [.sc (.int .i64 0), .sc (.int .i64 0), .sc (.int .i64 0), .st 34 [.sc (.int .i64 0), .sc (.int .i64 0)], .st 42 [.sc (.int .i64 0), .sc (.int .i64 0)], .sc (.int .i64 0), .sc (.int .i64 0), .st 42 [.sc (.int .i64 0), .sc (.int .i64 0)], .sc (.int .i64 0), .sc (.int .i64 0), .ro 29 true true []]) else
 bif t == 77 then some (.st 77 [.sc (.int .i64 0), .sc (.int .i64 0), .sc (.int .i64 0), .st 34 [.sc (.int .i64 0), .sc (.int .i64 0)], .st 42 [.sc (.int .i64 0), .sc (.int .i64 0)], .sc (.int .i64 0), .sc (.int .i64 0), .st 42 [.sc (.int .i64 0), .sc (.int .i64 0)], .sc (.int .i64 0), .sc (.int .i64 0), .ro 29 true true []]) else
 bif t == 88 then some (.sc (.complex .f64 0 0)) else
 bif t == 89 then some (.sc (.float .f64 0)) else
 bif t == 90 then some (.ro 88 true true []) else
 bif [96, 102, 125, 169, 170, 201].elem t then some (.sc (.pointer none)) else
 bif t == 97 then some (.st 97 [.st 39 [.st 34 [.sc (.int .i64 0), .sc (.int .i64 0)], .sc (.string ByteArray.empty), .ro 42 true true [], .sc (.int .i64 0), .ar 37 (List.replicate 32 (.sc (.int .u8 0)))], .st 53 [.st 42 [.sc (.int .i64 0), .sc (.int .i64 0)], .sc (.int .i64 0), .sc (.int .i64 0), .ar 37 (List.replicate 32 (.sc (.int .u8 0))), .sc (.int .i64 0), .ro 113 true true [], .st 42 [.sc (.int .i64 0), .sc (.int .i64 0)]]]) else
 bif t == 98 then some (.st 98 [.st 39 [.st 34 [.sc (.int .i64 0), .sc (.int .i64 0)], .sc (.string ByteArray.empty), .ro 42 true true [], .sc (.int .i64 0), .ar 37 (List.replicate 32 (.sc (.int .u8 0)))], .st 53 [.st 42 [.sc (.int .i64 0), .sc (.int .i64 0)], .sc (.int .i64 0), .sc (.int .i64 0), .ar 37 (List.replicate 32 (.sc (.int .u8 0))), .sc (.int .i64 0), .ro 113 true true [], .st 42 [.sc (.int .i64 0), .sc (.int .i64 0)]]]) else
 bif t == 112 then some (.st 112 [.sc (.int .i64 0), .sc (.int .i64 0), .sc (.string ByteArray.empty)]) else
 bif t == 113 then some (.st 113 [.sc (.int .i64 0), .sc (.int .i64 0), .sc (.string ByteArray.empty)]) else
 bif t == 134 then some (.st 134 [.ro 5 true true [], .sc (.int .i64 0), .sc (.int .i64 0)]) else
 bif t == 135 then some (.st 135 [.ro 5 true true [], .sc (.int .i64 0), .sc (.int .i64 0)]) else
 bif t == 141 then some (.sc (.int .u32 0)) else
 bif t == 142 then some (.ar 142 (List.replicate 8 (.sc (.int .u32 0)))) else
 bif t == 143 then some (.ar 143 (List.replicate 8 (.sc (.int .u32 0)))) else
 bif t == 159 then some (.ar 159 (List.replicate 64 (.sc (.int .u32 0)))) else
 bif t == 165 then some (.st 165 [.ro 5 true true [], .sc (.int .i64 0)]) else
 bif t == 166 then some (.st 166 [.ro 5 true true [], .sc (.int .i64 0)]) else
 bif t == 167 then some (.ro 170 true true []) else
 bif t == 173 then some (.ar 173 (List.replicate 64 (.sc (.int .u8 0)))) else
 bif t == 174 then some (.ar 174 (List.replicate 64 (.sc (.int .u8 0)))) else
 bif t == 190 then some (.ro 35 true true []) else
 none
def tau : Tab := Jas Try.prog tys JLj
theorem Jn : TabOk tau Try.prog := Jq2 (by kernel_rfl)
theorem Jo : Try.prog.follows .mixedOrders = true := by kernel_rfl
abbrev OR := Option Res
abbrev KR := Res -> OR
abbrev JA := List PV -> List Ent -> (Res -> Option Res) -> Option Res
theorem Jx {c : Code} {an : An} {np : Nat} (h : Jg c an = []) : ∀ q ∈ Jg c an, q.Ok tau Try.prog np := fun q hq => by rw [h] at hq; cases hq
theorem JL {a : Item} {l : List Item} {np : Nat} (h : a.Ok tau Try.prog np) (h2 : ∀ q ∈ l, q.Ok tau Try.prog np) : ∀ q ∈ a :: l, q.Ok tau Try.prog np := List.forall_mem_cons.2 ⟨h, h2⟩
def F0 : Fns := fun _ => none
theorem Jt : Jq tau Try.prog F0 := fun g sg h => by cases h

def JEV : Fns := F0
theorem Jvi : Jq tau Try.prog JEV := Jt
def Jq7 : An := (.seq .leaf (.seq .leaf .leaf))
def Jvj (f : Nat) (a_D a_U b_D b_U : Int) (k : KR) : OR := bif decide (a_D < b_D) then k (Res.mk (.sc (.bool true)) [] []) else bif a_D == b_D then k (Res.mk (.sc (.bool (decide (a_U < b_U)))) [] []) else k (Res.mk (.sc (.bool false)) [] [])
theorem JLk (f : Nat) (a_D a_U b_D b_U : Int) (k : KR) : JK tau JEV Try.f104 (Try.f104.body.get!) Jq7 [.ro] 0 [.st 42 [.sc (.int .i64 a_D), .sc (.int .i64 a_U)], .st 42 [.sc (.int .i64 b_D), .sc (.int .i64 b_U)]] [] k = Jvj f a_D a_U b_D b_U k := by kernel_rfl
theorem JEW (f : Nat) : ∀ q ∈ Jg (Try.f104.body.get!) Jq7, q.Ok tau Try.prog 0 := Jx (by kernel_rfl)
theorem Jx6 : Try.prog.funcs[104]? = some Try.f104 := by kernel_rfl
theorem Jx7 : Try.f104.body = some (Try.f104.body.get!) := by kernel_rfl
theorem JEX : Enters Try.prog 104 := enters_of Jx6 (by kernel_rfl) Jx7
def JkV : JA
 | [.st 42 [.sc (.int .i64 a_D), .sc (.int .i64 a_U)], .st 42 [.sc (.int .i64 b_D), .sc (.int .i64 b_U)]], [], k => Jvj 0 a_D a_U b_D b_U k
 | _, _, _ => none
def JLl : Sig := { own := [], run := JkV }
theorem JEY : Jc tau Try.prog 104 JLl := JP Jn Jvi Jo Jx6 Jx7 Jq7 [.ro] 0 [] JkV (JEW 0) fun xs es k res hr => by
 unfold JkV at hr
 split at hr
 · exact ⟨rfl, 0, (JLk 0 _ _ _ _  _).trans hr⟩
 · cases hr
def N58 : Nat := 18
def F58 : Fns := F0
theorem Jq8 : Jq tau Try.prog F58 := Jt
def Jn4 : Code := Qj (Try.f58.body.get!) [1, 0, 1, 0, 0]
def Jeb : Nm := [(0, .any), (3, .any), (5, .any)]
def Jg9 : Nm := [(4, .any)]
def Jq9 : An := (.seq (.seq .leaf (.cond .leaf .leaf)) (.seq (.block none (.seq .leaf (.cond (.seq .leaf .leaf) .leaf))) .leaf))
def Jvk (r0 : Qz) : An := (.seq .leaf (.seq (.seq .leaf (.block none (.sum Jeb N58 r0))) (.seq .leaf .leaf)))
abbrev Jra := Bool -> Bool -> List PV -> Int -> Int -> Int -> OR
def Jat (f : Nat) (rc : Jra) (k0 : Bool -> OR) (k1 : OR) (v0 v1 : Bool) (v2 : List PV) (v3 v4 v5 : Int) : OR := bif decide (v3 < zi v2.length) then bif decide (0 <= v3) && decide (v3 < zi v2.length) && (PV.isSt 42 #[Field.mk "D" 3 0 false "" "" 0, Field.mk "U" 3 1 false "" "" 8].size (v2.getD v3.toNat PV.top) && (PV.isInt IntKind.i64 (PV.child 0 (v2.getD v3.toNat PV.top)) && (PV.isInt IntKind.i64 (PV.child (0 + 1) (v2.getD v3.toNat PV.top)) && true))) && true then bif (PV.child 0 (v2.getD v3.toNat PV.top)).int == v4 && ((PV.child (0 + 1) (v2.getD v3.toNat PV.top)).int == v5 && true) then k0 true else rc v0 v1 v2 (IntKind.i64.wrap (v3 + 1)) v4 v5 else none else k1
def Gr (f : Nat) (k0 : Bool -> OR) (k1 : OR) : Nat -> Jra
 | 0 => fun _ _ _ _ _ _ => none
 | n + 1 => Jat f (Gr f k0 k1 n) k0 k1
def Jau (k : Kont) := fun x0 => k Ex.ret (Jj Jg9 N58 [.sc (.bool x0)] [])
def Jav (k : Kont) := k (Ex.exit 0) (Jj Jg9 N58 [PV.top] [])
def JkW (f : Nat) (k : Kont) (n : Nat) (v0 v1 : Bool) (v2 : List PV) (v3 v4 v5 : Int) : OR := Jy tau 0 Jeb (fun s k => ev tau F58 0 0 Jn4 (Jq9 ) s k) n (Jj Jeb N58 [.ro 42 v0 v1 v2, .ptr 304 [], .sc (.int .i64 v3)] [(304, .box false 42 (PV.st 42 [.sc (.int .i64 v4), .sc (.int .i64 v5)]))]) (JI tau 0 Jg9 k)
theorem Jvl (f : Nat) (k : Kont) (n : Nat) : JkW f k (n + 1) = Jat f (JkW f k n) (Jau k) (Jav k) := by kernel_rfl
theorem Jn5 (f : Nat) (k : Kont) : ∀ n, JkW f k n = Gr f (Jau k) (Jav k) n
 | 0 => rfl
 | n + 1 => (Jvl f k n).trans (congrArg (fun r => Jat f r (Jau k) (Jav k)) (Jn5 f k n))
def Jec (f : Nat) : List PV -> List (Nat × Ent) -> Kont -> OR
 | [.ro 42 v0 v1 v2, .ptr 304 [],
 PV.sc
  (Value.int IntKind.i64
   v3)], [(304,
  Ent.box false 42
   (PV.st 42
    [.sc (.int .i64 v4),
     .sc (.int .i64 v5)]))], k => Gr f (Jau k) (Jav k) f v0 v1 v2 v3 v4 v5
 | _, _, _ => none
theorem JAr (f : Nat) : Jg Jn4 Jq9 = [] := by kernel_rfl
theorem JAs (f : Nat) : (Item.l Jn4 Jeb N58 (Jec f)).Ok tau Try.prog 0 := Ju Jn Jq8 Jo (x := Jq9) (nm2 := Jg9) (Jk _ _ (by rw [JAr f]; intro q hq; cases hq)) fun vs hp k res hr => by
 unfold Jec at hr
 split at hr
 · rw [← Jn5 f] at hr; exact ⟨f, 0, hr⟩
 · cases hr
def g58 (f : Nat) (l_z l_f : Bool) (l : List PV) (a_D a_U : Int) (k : KR) : OR := Gr f (fun x0_0 => k (Res.mk (.sc (.bool x0_0)) [] [])) (k (Res.mk (.sc (.bool false)) [] [])) f l_z l_f l (0) a_D a_U
theorem e58 (f : Nat) (l_z l_f : Bool) (l : List PV) (a_D a_U : Int) (k : KR) : JK tau F58 Try.f58 (Try.f58.body.get!) (Jvk (Jec f)) [.ro] 0 [.ro 42 l_z l_f l, .st 42 [.sc (.int .i64 a_D), .sc (.int .i64 a_U)]] [] k = g58 f l_z l_f l a_D a_U k := by kernel_rfl
theorem JLm (f : Nat) : Jg (Try.f58.body.get!) (Jvk (Jec f)) = [.l Jn4 Jeb N58 (Jec f)] := by kernel_rfl
theorem JLn (f : Nat) : ∀ q ∈ Jg (Try.f58.body.get!) (Jvk (Jec f)), q.Ok tau Try.prog 0 := by rw [JLm f]; exact JL (JAs f) (fun _ h => nomatch h)
theorem JEZ : Try.prog.funcs[58]? = some Try.f58 := by kernel_rfl
theorem JE0 : Try.f58.body = some (Try.f58.body.get!) := by kernel_rfl
theorem JAt : Enters Try.prog 58 := enters_of JEZ (by kernel_rfl) JE0
def JE1 : Fns := F0
theorem Jvm : Jq tau Try.prog JE1 := Jt
def Jrb : An := (.seq .leaf (.seq (.seq .leaf (.block none (.seq (.seq .leaf (.cond .leaf .leaf)) (.cond (.seq .leaf (.cond (.seq .leaf .leaf) .leaf)) (.seq .leaf (.cond (.seq .leaf (.cond (.seq .leaf .leaf) .leaf)) (.seq .leaf .leaf))))))) (.seq (.seq .leaf (.cond (.seq .leaf .leaf) .leaf)) (.seq .leaf .leaf))))
def Jvn (f : Nat) (y0 c_N : Int) (c_S : ByteArray) (k : KR) : OR := bif y0 == 1 then bif y0 == 1 then bif decide (c_N < 1) then k (Res.mk (.sc (.int .i64 1)) [] []) else bif decide (c_N > 120) then k (Res.mk (.sc (.int .i64 1)) [] []) else bif !YZ c_S (ByteArray.mk (Array.mk [])) then k (Res.mk (.sc (.int .i64 1)) [] []) else bif decide (zi c_S.size > 120) then k (Res.mk (.sc (.int .i64 5)) [] []) else k (Res.mk (.sc (.int .i64 0)) [] []) else bif y0 == 2 then bif c_N != 0 then k (Res.mk (.sc (.int .i64 1)) [] []) else bif YZ c_S (ByteArray.mk (Array.mk [])) then k (Res.mk (.sc (.int .i64 1)) [] []) else bif decide (zi c_S.size > 120) then k (Res.mk (.sc (.int .i64 5)) [] []) else k (Res.mk (.sc (.int .i64 0)) [] []) else k (Res.mk (.sc (.int .i64 3)) [] []) else bif y0 == 3 then bif decide (c_N < 1) then k (Res.mk (.sc (.int .i64 1)) [] []) else bif decide (c_N > 120) then k (Res.mk (.sc (.int .i64 1)) [] []) else bif !YZ c_S (ByteArray.mk (Array.mk [])) then k (Res.mk (.sc (.int .i64 1)) [] []) else bif decide (zi c_S.size > 120) then k (Res.mk (.sc (.int .i64 5)) [] []) else k (Res.mk (.sc (.int .i64 0)) [] []) else bif y0 == 2 then bif c_N != 0 then k (Res.mk (.sc (.int .i64 1)) [] []) else bif YZ c_S (ByteArray.mk (Array.mk [])) then k (Res.mk (.sc (.int .i64 1)) [] []) else bif decide (zi c_S.size > 120) then k (Res.mk (.sc (.int .i64 5)) [] []) else k (Res.mk (.sc (.int .i64 0)) [] []) else k (Res.mk (.sc (.int .i64 3)) [] [])
theorem JLo (f : Nat) (y0 c_N : Int) (c_S : ByteArray) (k : KR) : JK tau JE1 Try.f124 (Try.f124.body.get!) Jrb [.ro] 0 [.st 113 [.sc (.int .i64 y0), .sc (.int .i64 c_N), .sc (.string c_S)]] [] k = Jvn f y0 c_N c_S k := by kernel_rfl
theorem JE2 (f : Nat) : ∀ q ∈ Jg (Try.f124.body.get!) Jrb, q.Ok tau Try.prog 0 := Jx (by kernel_rfl)
theorem Jx8 : Try.prog.funcs[124]? = some Try.f124 := by kernel_rfl
theorem Jx9 : Try.f124.body = some (Try.f124.body.get!) := by kernel_rfl
theorem JE3 : Enters Try.prog 124 := enters_of Jx8 (by kernel_rfl) Jx9
def JkX : JA
 | [.st 113 [.sc (.int .i64 y0), .sc (.int .i64 c_N), .sc (.string c_S)]], [], k => Jvn 0 y0 c_N c_S k
 | _, _, _ => none
def JLp : Sig := { own := [], run := JkX }
theorem JE4 : Jc tau Try.prog 124 JLp := JP Jn Jvm Jo Jx8 Jx9 Jrb [.ro] 0 [] JkX (JE2 0) fun xs es k res hr => by
 unfold JkX at hr
 split at hr
 · exact ⟨rfl, 0, (JLo 0 _ _ _  _).trans hr⟩
 · cases hr
def JE5 : Fns := F0
theorem Jvo : Jq tau Try.prog JE5 := Jt
def Jrc : An := (.seq .leaf (.seq (.seq .leaf (.block none (.seq (.seq .leaf (.cond .leaf .leaf)) (.cond (.seq .leaf (.cond (.seq .leaf .leaf) .leaf)) (.seq .leaf (.cond (.seq (.seq .leaf (.cond (.seq .leaf .leaf) .leaf)) (.seq .leaf (.cond (.seq .leaf .leaf) .leaf))) (.seq .leaf .leaf))))))) (.seq .leaf .leaf)))
def Jvp (f : Nat) (y0 c_N : Int) (c_S : ByteArray) (k : KR) : OR := bif y0 == 1 then bif y0 == 1 then bif decide (c_N < 1) then k (Res.mk (.sc (.int .i64 1)) [] []) else bif decide (c_N > 120) then k (Res.mk (.sc (.int .i64 1)) [] []) else bif !YZ c_S (ByteArray.mk (Array.mk [])) then k (Res.mk (.sc (.int .i64 1)) [] []) else k (Res.mk (.sc (.int .i64 0)) [] []) else bif y0 == 2 then bif c_N != 0 then k (Res.mk (.sc (.int .i64 1)) [] []) else bif YZ c_S (ByteArray.mk (Array.mk [])) then k (Res.mk (.sc (.int .i64 1)) [] []) else bif decide (zi c_S.size > 120) then k (Res.mk (.sc (.int .i64 5)) [] []) else k (Res.mk (.sc (.int .i64 0)) [] []) else k (Res.mk (.sc (.int .i64 3)) [] []) else bif y0 == 3 then bif decide (c_N < 1) then k (Res.mk (.sc (.int .i64 1)) [] []) else bif decide (c_N > 120) then k (Res.mk (.sc (.int .i64 1)) [] []) else bif !YZ c_S (ByteArray.mk (Array.mk [])) then k (Res.mk (.sc (.int .i64 1)) [] []) else k (Res.mk (.sc (.int .i64 0)) [] []) else bif y0 == 2 then bif c_N != 0 then k (Res.mk (.sc (.int .i64 1)) [] []) else bif YZ c_S (ByteArray.mk (Array.mk [])) then k (Res.mk (.sc (.int .i64 1)) [] []) else bif decide (zi c_S.size > 120) then k (Res.mk (.sc (.int .i64 5)) [] []) else k (Res.mk (.sc (.int .i64 0)) [] []) else k (Res.mk (.sc (.int .i64 3)) [] [])
theorem JLq (f : Nat) (y0 c_N : Int) (c_S : ByteArray) (k : KR) : JK tau JE5 Try.f101 (Try.f101.body.get!) Jrc [.ro] 0 [.st 113 [.sc (.int .i64 y0), .sc (.int .i64 c_N), .sc (.string c_S)]] [] k = Jvp f y0 c_N c_S k := by kernel_rfl
theorem JE6 (f : Nat) : ∀ q ∈ Jg (Try.f101.body.get!) Jrc, q.Ok tau Try.prog 0 := Jx (by kernel_rfl)
theorem Jya : Try.prog.funcs[101]? = some Try.f101 := by kernel_rfl
theorem Jyb : Try.f101.body = some (Try.f101.body.get!) := by kernel_rfl
theorem JE7 : Enters Try.prog 101 := enters_of Jya (by kernel_rfl) Jyb
def JkY : JA
 | [.st 113 [.sc (.int .i64 y0), .sc (.int .i64 c_N), .sc (.string c_S)]], [], k => Jvp 0 y0 c_N c_S k
 | _, _, _ => none
def JLr : Sig := { own := [], run := JkY }
theorem JE8 : Jc tau Try.prog 101 JLr := JP Jn Jvo Jo Jya Jyb Jrc [.ro] 0 [] JkY (JE6 0) fun xs es k res hr => by
 unfold JkY at hr
 split at hr
 · exact ⟨rfl, 0, (JLq 0 _ _ _  _).trans hr⟩
 · cases hr
structure CV where
 (kd n : Int) (s : ByteArray)
def Jjp (c : CV) : Int :=
 bif c.kd == 1 || c.kd == 3 then (bif decide (c.n < 1) || (decide (c.n > 120) || !(c.s.size == 0)) then 1 else 0)
 else bif c.kd == 2 then (bif !(c.n == 0) || c.s.size == 0 then 1 else bif decide (zi c.s.size > 120) then 5 else 0) else 3
def ckC : CV -> Int := hid Jjp
theorem Jcc (c : CV) : ckC c = Jjp c := by rw [ckC, hid_eq]
theorem Jjq (s : ByteArray) : YZ s (ByteArray.mk (Array.mk [])) = (s.size == 0) := by
 rw [Jn6]
 cases h : (s.size == 0) with
 | true =>
  have hs : s.size = 0 := by simpa using h
  refine decide_eq_true (ByteArray.ext (Array.eq_empty_of_size_eq_zero hs))
 | false =>
  refine decide_eq_false fun he => ?_
  rw [he] at h
  exact absurd h (by decide)
theorem Jvq (kd n : Int) (s : ByteArray) (k : KR) : Jvn 0 kd n s k = k ⟨.sc (.int .i64 (ckC ⟨kd, n, s⟩)), [], []⟩ := by
 rw [Jcc]
 unfold Jvn Jjp
 simp only [Jjq, bne]
 have hcomb : (s.size == 0) = true -> decide (zi s.size > 120) = false := fun h => by
  have : s.size = 0 := by simpa using h
  rw [this]; decide
 generalize (s.size == 0) = e0 at *
 generalize decide (zi s.size > 120) = e1 at *
 generalize decide (n < 1) = a
 generalize decide (n > 120) = b
 generalize (n == 0) = c
 generalize (kd == 1) = d1
 generalize (kd == 2) = d2
 generalize (kd == 3) = d3
 cases d1 <;> cases d3 <;> cases d2 <;> cases e0 <;> cases e1 <;> cases a <;> cases b <;> cases c <;> first | rfl | exact absurd (hcomb rfl) (by decide)
def Jha : JA
 | [.st 113 [.sc (.int .i64 kd), .sc (.int .i64 n), .sc (.string s)]], [], k => k ⟨.sc (.int .i64 (ckC ⟨kd, n, s⟩)), [], []⟩
 | _, _, _ => none
def Jyc : Sig := { own := [], run := Jha }
theorem JAu : Jc tau Try.prog 124 Jyc := JE4.of fun xs es k res hr => by
 change Jha xs es k = some res at hr
 unfold Jha at hr
 split at hr
 · rename_i kd n s
   exact (Jvq kd n s k).trans hr
 · cases hr
theorem Jvr (kd n : Int) (s : ByteArray) (k : KR) : Jvp 0 kd n s k = k ⟨.sc (.int .i64 (ckC ⟨kd, n, s⟩)), [], []⟩ := by
 rw [Jcc]
 unfold Jvp Jjp
 simp only [Jjq, bne]
 have hcomb : (s.size == 0) = true -> decide (zi s.size > 120) = false := fun h => by
  have : s.size = 0 := by simpa using h
  rw [this]; decide
 generalize (s.size == 0) = e0 at *
 generalize decide (zi s.size > 120) = e1 at *
 generalize decide (n < 1) = a
 generalize decide (n > 120) = b
 generalize (n == 0) = c
 generalize (kd == 1) = d1
 generalize (kd == 2) = d2
 generalize (kd == 3) = d3
 cases d1 <;> cases d3 <;> cases d2 <;> cases e0 <;> cases e1 <;> cases a <;> cases b <;> cases c <;> first | rfl | exact absurd (hcomb rfl) (by decide)
def Jhb : JA
 | [.st 113 [.sc (.int .i64 kd), .sc (.int .i64 n), .sc (.string s)]], [], k => k ⟨.sc (.int .i64 (ckC ⟨kd, n, s⟩)), [], []⟩
 | _, _, _ => none
def Jyd : Sig := { own := [], run := Jhb }
theorem JAv : Jc tau Try.prog 101 Jyd := JE8.of fun xs es k res hr => by
 change Jhb xs es k = some res at hr
 unfold Jhb at hr
 split at hr
 · rename_i kd n s
   exact (Jvr kd n s k).trans hr
 · cases hr
def N88 : Nat := 21
def F88 : Fns := Js 124 Jyc (F0)
theorem Jrd : Jq tau Try.prog F88 := (Jt).add JAu JE3
def Jn7 : Code := Qj (Try.f88.body.get!) [1, 1, 0, 1, 0, 0]
def Jed : Nm := [(9, .any), (10, .any), (11, .any)]
def Jhc : Nm := [(2, .any)]
def Jre : An := (.seq .leaf (.seq (.cond .leaf .leaf) (.seq (.block none (.seq .leaf (.seq .leaf (.seq .leaf (.cond (.seq .leaf .leaf) .leaf))))) .leaf)))
def Jvs (r0 : Qz) : An := (.seq .leaf (.seq (.seq .leaf (.cond (.seq .leaf .leaf) .leaf)) (.seq (.seq .leaf (.block none (.sum Jed N88 r0))) (.seq .leaf .leaf))))
abbrev Jrf := Bool -> Bool -> List PV -> Int -> Int -> OR
abbrev Za (v2 : List PV) (v4 : Int) := (CV.mk (PV.child 0 (v2.getD v4.toNat PV.top)).int (PV.child (0 + 1) (v2.getD v4.toNat PV.top)).int (PV.child (0 + 1 + 1) (v2.getD v4.toNat PV.top)).str)
def Jaw (f : Nat) (rc : Jrf) (k0 : Int -> OR) (k1 : OR) (v0 v1 : Bool) (v2 : List PV) (v3 v4 : Int) : OR := bif decide (v4 < v3) then bif decide (0 <= v4) && decide (v4 < zi v2.length) && (PV.isSt 113 #[Field.mk "Kind" 3 0 false "" "" 0, Field.mk "N" 3 1 false "" "" 8, Field.mk "S" 9 2 false "" "" 16].size (v2.getD v4.toNat PV.top) && (PV.isInt IntKind.i64 (PV.child 0 (v2.getD v4.toNat PV.top)) && (PV.isInt IntKind.i64 (PV.child (0 + 1) (v2.getD v4.toNat PV.top)) && ((PV.child (0 + 1 + 1) (v2.getD v4.toNat PV.top)).isStr && true)))) && true then bif ckC (Za v2 v4) != 0 then k0 (ckC (Za v2 v4)) else rc v0 v1 v2 v3 (IntKind.i64.wrap (v4 + 1)) else none else k1
def Gs (f : Nat) (k0 : Int -> OR) (k1 : OR) : Nat -> Jrf
 | 0 => fun _ _ _ _ _ => none
 | n + 1 => Jaw f (Gs f k0 k1 n) k0 k1
def Jax (k : Kont) := fun x0 => k Ex.ret (Jj Jhc N88 [.sc (.int .i64 x0)] [])
def Jay (k : Kont) := k (Ex.exit 0) (Jj Jhc N88 [PV.top] [])
def JkZ (f : Nat) (k : Kont) (n : Nat) (v0 v1 : Bool) (v2 : List PV) (v3 v4 : Int) : OR := Jy tau 0 Jed (fun s k => ev tau F88 0 0 Jn7 (Jre ) s k) n (Jj Jed N88 [.ro 113 v0 v1 v2, .sc (.int .i64 v3), .sc (.int .i64 v4)] []) (JI tau 0 Jhc k)
theorem Jvt (f : Nat) (k : Kont) (n : Nat) : JkZ f k (n + 1) = Jaw f (JkZ f k n) (Jax k) (Jay k) := by kernel_rfl
theorem Jn8 (f : Nat) (k : Kont) : ∀ n, JkZ f k n = Gs f (Jax k) (Jay k) n
 | 0 => rfl
 | n + 1 => (Jvt f k n).trans (congrArg (fun r => Jaw f r (Jax k) (Jay k)) (Jn8 f k n))
def Jee (f : Nat) : List PV -> List (Nat × Ent) -> Kont -> OR
 | [.ro 113 v0 v1 v2, .sc (.int .i64 v3),
 .sc (.int .i64 v4)], [], k => Gs f (Jax k) (Jay k) f v0 v1 v2 v3 v4
 | _, _, _ => none
theorem JAw (f : Nat) : Jg Jn7 Jre = [] := by kernel_rfl
theorem JAx (f : Nat) : (Item.l Jn7 Jed N88 (Jee f)).Ok tau Try.prog 0 := Ju Jn Jrd Jo (x := Jre) (nm2 := Jhc) (Jk _ _ (by rw [JAw f]; intro q hq; cases hq)) fun vs hp k res hr => by
 unfold Jee at hr
 split at hr
 · rw [← Jn8 f] at hr; exact ⟨f, 0, hr⟩
 · cases hr
def g88 (f : Nat) (o_z o_f : Bool) (o : List PV) (k : KR) : OR := bif decide (zi o.length > 40) then k (Res.mk (.sc (.int .i64 4)) [] []) else Gs f (fun x0_0 => k (Res.mk (.sc (.int .i64 x0_0)) [] [])) (k (Res.mk (.sc (.int .i64 0)) [] [])) f o_z o_f o (zi o.length) (0)
theorem e88 (f : Nat) (o_z o_f : Bool) (o : List PV) (k : KR) : JK tau F88 Try.f88 (Try.f88.body.get!) (Jvs (Jee f)) [.ro] 0 [.ro 113 o_z o_f o] [] k = g88 f o_z o_f o k := by kernel_rfl
theorem JLs (f : Nat) : Jg (Try.f88.body.get!) (Jvs (Jee f)) = [.l Jn7 Jed N88 (Jee f)] := by kernel_rfl
theorem JLt (f : Nat) : ∀ q ∈ Jg (Try.f88.body.get!) (Jvs (Jee f)), q.Ok tau Try.prog 0 := by rw [JLs f]; exact JL (JAx f) (fun _ h => nomatch h)
theorem JE9 : Try.prog.funcs[88]? = some Try.f88 := by kernel_rfl
theorem JFa : Try.f88.body = some (Try.f88.body.get!) := by kernel_rfl
theorem JAy : Enters Try.prog 88 := enters_of JE9 (by kernel_rfl) JFa
def N59 : Nat := 22
def F59 : Fns := Js 101 Jyd (F0)
theorem Jrg : Jq tau Try.prog F59 := (Jt).add JAv JE7
def Jn9 : Code := Qj (Try.f59.body.get!) [1, 1, 0, 1, 0, 0]
def Jef : Nm := [(0, .any), (3, .any)]
def Jhd : Nm := [(2, .any)]
def Jrh : An := (.seq (.seq .leaf (.cond .leaf .leaf)) (.seq (.block none (.seq .leaf (.seq .leaf (.cond (.seq .leaf .leaf) .leaf)))) .leaf))
def Jvu (r0 : Qz) : An := (.seq .leaf (.seq (.seq .leaf (.cond (.seq .leaf .leaf) .leaf)) (.seq (.seq .leaf (.block none (.sum Jef N59 r0))) (.seq .leaf .leaf))))
abbrev Jri := Bool -> Bool -> List PV -> Int -> OR
abbrev Zb (v2 : List PV) (v3 : Int) := (CV.mk (PV.child 0 (v2.getD v3.toNat PV.top)).int (PV.child (0 + 1) (v2.getD v3.toNat PV.top)).int (PV.child (0 + 1 + 1) (v2.getD v3.toNat PV.top)).str)
def Jaz (f : Nat) (rc : Jri) (k0 : Int -> OR) (k1 : OR) (v0 v1 : Bool) (v2 : List PV) (v3 : Int) : OR := bif decide (v3 < zi v2.length) then bif decide (0 <= v3) && decide (v3 < zi v2.length) && (PV.isSt 113 #[Field.mk "Kind" 3 0 false "" "" 0, Field.mk "N" 3 1 false "" "" 8, Field.mk "S" 9 2 false "" "" 16].size (v2.getD v3.toNat PV.top) && (PV.isInt IntKind.i64 (PV.child 0 (v2.getD v3.toNat PV.top)) && (PV.isInt IntKind.i64 (PV.child (0 + 1) (v2.getD v3.toNat PV.top)) && ((PV.child (0 + 1 + 1) (v2.getD v3.toNat PV.top)).isStr && true)))) && true then bif ckC (Zb v2 v3) != 0 then k0 (ckC (Zb v2 v3)) else rc v0 v1 v2 (IntKind.i64.wrap (v3 + 1)) else none else k1
def Gt (f : Nat) (k0 : Int -> OR) (k1 : OR) : Nat -> Jri
 | 0 => fun _ _ _ _ => none
 | n + 1 => Jaz f (Gt f k0 k1 n) k0 k1
def JaA (k : Kont) := fun x0 => k Ex.ret (Jj Jhd N59 [.sc (.int .i64 x0)] [])
def JaB (k : Kont) := k (Ex.exit 0) (Jj Jhd N59 [PV.top] [])
def Jk0 (f : Nat) (k : Kont) (n : Nat) (v0 v1 : Bool) (v2 : List PV) (v3 : Int) : OR := Jy tau 0 Jef (fun s k => ev tau F59 0 0 Jn9 (Jrh ) s k) n (Jj Jef N59 [.ro 113 v0 v1 v2, .sc (.int .i64 v3)] []) (JI tau 0 Jhd k)
theorem Jvv (f : Nat) (k : Kont) (n : Nat) : Jk0 f k (n + 1) = Jaz f (Jk0 f k n) (JaA k) (JaB k) := by kernel_rfl
theorem Joa (f : Nat) (k : Kont) : ∀ n, Jk0 f k n = Gt f (JaA k) (JaB k) n
 | 0 => rfl
 | n + 1 => (Jvv f k n).trans (congrArg (fun r => Jaz f r (JaA k) (JaB k)) (Joa f k n))
def Jeg (f : Nat) : List PV -> List (Nat × Ent) -> Kont -> OR
 | [.ro 113 v0 v1 v2,
 .sc (.int .i64 v3)], [], k => Gt f (JaA k) (JaB k) f v0 v1 v2 v3
 | _, _, _ => none
theorem JAz (f : Nat) : Jg Jn9 Jrh = [] := by kernel_rfl
theorem JAA (f : Nat) : (Item.l Jn9 Jef N59 (Jeg f)).Ok tau Try.prog 0 := Ju Jn Jrg Jo (x := Jrh) (nm2 := Jhd) (Jk _ _ (by rw [JAz f]; intro q hq; cases hq)) fun vs hp k res hr => by
 unfold Jeg at hr
 split at hr
 · rw [← Joa f] at hr; exact ⟨f, 0, hr⟩
 · cases hr
def g59 (f : Nat) (o_z o_f : Bool) (o : List PV) (k : KR) : OR := bif decide (zi o.length > 40) then k (Res.mk (.sc (.int .i64 4)) [] []) else Gt f (fun x0_0 => k (Res.mk (.sc (.int .i64 x0_0)) [] [])) (k (Res.mk (.sc (.int .i64 0)) [] [])) f o_z o_f o (0)
theorem e59 (f : Nat) (o_z o_f : Bool) (o : List PV) (k : KR) : JK tau F59 Try.f59 (Try.f59.body.get!) (Jvu (Jeg f)) [.ro] 0 [.ro 113 o_z o_f o] [] k = g59 f o_z o_f o k := by kernel_rfl
theorem JLu (f : Nat) : Jg (Try.f59.body.get!) (Jvu (Jeg f)) = [.l Jn9 Jef N59 (Jeg f)] := by kernel_rfl
theorem JLv (f : Nat) : ∀ q ∈ Jg (Try.f59.body.get!) (Jvu (Jeg f)), q.Ok tau Try.prog 0 := by rw [JLu f]; exact JL (JAA f) (fun _ h => nomatch h)
theorem JFb : Try.prog.funcs[59]? = some Try.f59 := by kernel_rfl
theorem JFc : Try.f59.body = some (Try.f59.body.get!) := by kernel_rfl
theorem JAB : Enters Try.prog 59 := enters_of JFb (by kernel_rfl) JFc
def isCp : PV -> Bool
 | .st t [.sc (.int .i64 _), .sc (.int .i64 _), .sc (.string _)] => t == 113
 | _ => false
theorem Jjr {p : PV} : isCp p = true ↔ ∃ kd n s, p = .st 113 [.sc (.int .i64 kd), .sc (.int .i64 n), .sc (.string s)] := by
 constructor
 · intro h
   unfold isCp at h
   split at h
   · rename_i t kd n s
     obtain rfl : t = 113 := by simpa using h
     exact ⟨kd, n, s, rfl⟩
   · cases h
 · rintro ⟨kd, n, s, rfl⟩; rfl
def cv (p : PV) : CV := ⟨(p.child 0).int, (p.child 1).int, (p.child 2).str⟩
theorem XJ {p : PV} (h : isCp p = true) : (PV.isSt 113 #[Field.mk "Kind" 3 0 false "" "" 0, Field.mk "N" 3 1 false "" "" 8, Field.mk "S" 9 2 false "" "" 16].size p && (PV.isInt IntKind.i64 (PV.child 0 p) && (PV.isInt IntKind.i64 (PV.child (0 + 1) p) && ((PV.child (0 + 1 + 1) p).isStr && true)))) = true := by
 obtain ⟨kd, n, s, rfl⟩ := Jjr.1 h
 simp [PV.isSt, PV.child, PV.isInt, PV.isStr]
theorem WW {l : List PV} (h : l.all isCp = true) {i : Nat} (hi : i < l.length) : isCp (l.getD i .top) = true := by
 rw [List.getD_eq_getElem?_getD, List.getElem?_eq_getElem hi]
 exact List.all_eq_true.1 h _ (List.getElem_mem hi)
def ckL : List PV -> Int
 | [] => 0
 | p :: r => bif ckC (cv p) == 0 then ckL r else ckC (cv p)
def Jqk (l : List PV) : Int := bif decide (zi l.length > 40) then 4 else ckL l
def ckO : List PV -> Int := hid Jqk
theorem Jhe (l : List PV) : ckO l = Jqk l := by rw [ckO, hid_eq]
def cOk : List PV -> Bool := hid fun l => l.all isCp && Nat.ble l.length 9223372036854775807
theorem Yi {l : List PV} : cOk l = true ↔ l.all isCp = true /\ l.length <= 9223372036854775807 := by
 rw [cOk, hid_eq, Bool.and_eq_true, Nat.ble_eq]
theorem Qb {l : List PV} {i : Nat} (h : i < l.length) : l.drop i = l.getD i .top :: l.drop (i + 1) := by
 rw [List.drop_eq_getElem_cons h]; simp [List.getD_eq_getElem?_getD, h]
theorem Jye (l : List PV) (h1 : l.all isCp = true) (h2 : l.length <= 40) (f : Nat) (k0 : Int -> OR) (k1 : OR) (z fl : Bool) : ∀ (d i n : Nat), i + d = l.length -> d < n ->
  Gs f k0 k1 n z fl l (zi l.length) (i : Int) = bif ckL (l.drop i) == 0 then k1 else k0 (ckL (l.drop i))
 | 0, i, n + 1, hi, hn => by
   rw [List.drop_of_length_le (by omega)]
   simp only [Gs, Jaw, Za]
   exact Jd (by simp [zi]; omega)
 | d + 1, i, n + 1, hi, hn => by
   have g1 := tI i
   have w1 := wI (i := i) (by omega)
   have hro : (decide (0 <= (i : Int)) && decide ((i : Int) < zi l.length) && (PV.isSt 113 #[Field.mk "Kind" 3 0 false "" "" 0, Field.mk "N" 3 1 false "" "" 8, Field.mk "S" 9 2 false "" "" 16].size (l.getD i PV.top) && (PV.isInt IntKind.i64 (PV.child 0 (l.getD i PV.top)) && (PV.isInt IntKind.i64 (PV.child (0 + 1) (l.getD i PV.top)) && ((PV.child (0 + 1 + 1) (l.getD i PV.top)).isStr && true)))) && true) = true := by
    have hq : (PV.isSt 113 #[Field.mk "Kind" 3 0 false "" "" 0, Field.mk "N" 3 1 false "" "" 8, Field.mk "S" 9 2 false "" "" 16].size (l.getD i PV.top) && (PV.isInt IntKind.i64 (PV.child 0 (l.getD i PV.top)) && (PV.isInt IntKind.i64 (PV.child (0 + 1) (l.getD i PV.top)) && ((PV.child (0 + 1 + 1) (l.getD i PV.top)).isStr && true)))) = true := XJ (WW h1 (by omega))
    rw [hq]; simp [zi]; omega
   have hd := Qb (l := l) (i := i) (by omega)
   have hs : CV.mk (PV.child 0 (l.getD i PV.top)).int (PV.child (0 + 1) (l.getD i PV.top)).int (PV.child (0 + 1 + 1) (l.getD i PV.top)).str = cv (l.getD i .top) := rfl
   simp only [Gs, Jaw, Za, g1, w1, hs]
   refine (Ja (by simp [zi]; omega)).trans ((Ja hro).trans ?_)
   rw [hd]
   cases hc : (ckC (cv (l.getD i .top)) == 0) with
   | true =>
    refine (Jd (by simp only [bne, hc]; rfl)).trans ?_
    rw [Jye l h1 h2 f k0 k1 z fl d (i + 1) n (by omega) (by omega)]
    simp only [ckL, hc, cond_true]
   | false =>
    refine (Ja (by simp only [bne, hc]; rfl)).trans ?_
    simp only [ckL, hc, cond_false]
def Jk1 : JA
 | [.ro 113 z f l], [], k => bif cOk l then k ⟨.sc (.int .i64 (ckO l)), [], []⟩ else none
 | _, _, _ => none
def Jvw : Sig := { own := [], run := Jk1 }
theorem JAC (z f : Bool) (l : List PV) (h : cOk l = true) (k : KR) : g88 50 z f l k = k ⟨.sc (.int .i64 (ckO l)), [], []⟩ := by
 obtain ⟨h1, h2⟩ := Yi.1 h
 rw [Jhe]
 unfold g88 Jqk
 cases hc : decide (zi l.length > 40) with
 | true => rfl
 | false =>
  have hl : l.length <= 40 := by simp only [zi, decide_eq_false_iff_not] at hc; omega
  rw [cond_false, cond_false]
  refine (Jye l h1 hl 50 _ _ z f l.length 0 50 (by omega) (by omega)).trans ?_
  rw [List.drop_zero]
  cases h0 : (ckL l == 0) with
  | true =>
   have : ckL l = 0 := by simpa using h0
   rw [this]; rfl
  | false => rfl
theorem Jrj : Jc tau Try.prog 88 Jvw := Jc.mk' fun xs es k res hl hr => by
 change Jk1 xs es k = some res at hr
 unfold Jk1 at hr
 split at hr
 · rename_i z f l
   obtain ⟨hc, hr⟩ := Jw hr
   exact J6 Jn Jrd Jo JE9 JFa (Jvs (Jee 50)) [.ro] 0 0 (JLt 50) hl rfl ((e88 50 z f l k).trans ((JAC z f l hc k).trans hr))
 · cases hr
theorem Jyf (l : List PV) (h1 : l.all isCp = true) (h2 : l.length <= 40) (f : Nat) (k0 : Int -> OR) (k1 : OR) (z fl : Bool) : ∀ (d i n : Nat), i + d = l.length -> d < n ->
  Gt f k0 k1 n z fl l (i : Int) = bif ckL (l.drop i) == 0 then k1 else k0 (ckL (l.drop i))
 | 0, i, n + 1, hi, hn => by
   rw [List.drop_of_length_le (by omega)]
   simp only [Gt, Jaz, Zb]
   exact Jd (by simp [zi]; omega)
 | d + 1, i, n + 1, hi, hn => by
   have g1 := tI i
   have w1 := wI (i := i) (by omega)
   have hro : (decide (0 <= (i : Int)) && decide ((i : Int) < zi l.length) && (PV.isSt 113 #[Field.mk "Kind" 3 0 false "" "" 0, Field.mk "N" 3 1 false "" "" 8, Field.mk "S" 9 2 false "" "" 16].size (l.getD i PV.top) && (PV.isInt IntKind.i64 (PV.child 0 (l.getD i PV.top)) && (PV.isInt IntKind.i64 (PV.child (0 + 1) (l.getD i PV.top)) && ((PV.child (0 + 1 + 1) (l.getD i PV.top)).isStr && true)))) && true) = true := by
    have hq : (PV.isSt 113 #[Field.mk "Kind" 3 0 false "" "" 0, Field.mk "N" 3 1 false "" "" 8, Field.mk "S" 9 2 false "" "" 16].size (l.getD i PV.top) && (PV.isInt IntKind.i64 (PV.child 0 (l.getD i PV.top)) && (PV.isInt IntKind.i64 (PV.child (0 + 1) (l.getD i PV.top)) && ((PV.child (0 + 1 + 1) (l.getD i PV.top)).isStr && true)))) = true := XJ (WW h1 (by omega))
    rw [hq]; simp [zi]; omega
   have hd := Qb (l := l) (i := i) (by omega)
   have hs : CV.mk (PV.child 0 (l.getD i PV.top)).int (PV.child (0 + 1) (l.getD i PV.top)).int (PV.child (0 + 1 + 1) (l.getD i PV.top)).str = cv (l.getD i .top) := rfl
   simp only [Gt, Jaz, Zb, g1, w1, hs]
   refine (Ja (by simp [zi]; omega)).trans ((Ja hro).trans ?_)
   rw [hd]
   cases hc : (ckC (cv (l.getD i .top)) == 0) with
   | true =>
    refine (Jd (by simp only [bne, hc]; rfl)).trans ?_
    rw [Jyf l h1 h2 f k0 k1 z fl d (i + 1) n (by omega) (by omega)]
    simp only [ckL, hc, cond_true]
   | false =>
    refine (Ja (by simp only [bne, hc]; rfl)).trans ?_
    simp only [ckL, hc, cond_false]
def Jk2 : JA
 | [.ro 113 z f l], [], k => bif cOk l then k ⟨.sc (.int .i64 (ckO l)), [], []⟩ else none
 | _, _, _ => none
def Jvx : Sig := { own := [], run := Jk2 }
theorem JAD (z f : Bool) (l : List PV) (h : cOk l = true) (k : KR) : g59 50 z f l k = k ⟨.sc (.int .i64 (ckO l)), [], []⟩ := by
 obtain ⟨h1, h2⟩ := Yi.1 h
 rw [Jhe]
 unfold g59 Jqk
 cases hc : decide (zi l.length > 40) with
 | true => rfl
 | false =>
  have hl : l.length <= 40 := by simp only [zi, decide_eq_false_iff_not] at hc; omega
  rw [cond_false, cond_false]
  refine (Jyf l h1 hl 50 _ _ z f l.length 0 50 (by omega) (by omega)).trans ?_
  rw [List.drop_zero]
  cases h0 : (ckL l == 0) with
  | true =>
   have : ckL l = 0 := by simpa using h0
   rw [this]; rfl
  | false => rfl
theorem Jrk : Jc tau Try.prog 59 Jvx := Jc.mk' fun xs es k res hl hr => by
 change Jk2 xs es k = some res at hr
 unfold Jk2 at hr
 split at hr
 · rename_i z f l
   obtain ⟨hc, hr⟩ := Jw hr
   exact J6 Jn Jrg Jo JFb JFc (Jvu (Jeg 50)) [.ro] 0 0 (JLv 50) hl rfl ((e59 50 z f l k).trans ((JAD z f l hc k).trans hr))
 · cases hr



def F74 : Fns := F0
theorem JAE : Jq tau Try.prog F74 := Jt
def JAF : An := (.seq .leaf (.seq .leaf .leaf))
def g74 (f : Nat) (a_D a_U : Int) (k : KR) : OR := bif decide (a_D >= 0) then bif decide (a_D < 3) then bif decide (a_U >= 0) then k (Res.mk (.sc (.bool (decide (a_U < 8)))) [] []) else k (Res.mk (.sc (.bool false)) [] []) else k (Res.mk (.sc (.bool false)) [] []) else k (Res.mk (.sc (.bool false)) [] [])
theorem e74 (f : Nat) (a_D a_U : Int) (k : KR) : JK tau F74 Try.f74 (Try.f74.body.get!) JAF [.ro] 0 [.st 42 [.sc (.int .i64 a_D), .sc (.int .i64 a_U)]] [] k = g74 f a_D a_U k := by kernel_rfl
theorem JLw (f : Nat) : ∀ q ∈ Jg (Try.f74.body.get!) JAF, q.Ok tau Try.prog 0 := Jx (by kernel_rfl)
theorem JFd : Try.prog.funcs[74]? = some Try.f74 := by kernel_rfl
theorem JFe : Try.f74.body = some (Try.f74.body.get!) := by kernel_rfl
theorem JFf : Enters Try.prog 74 := enters_of JFd (by kernel_rfl) JFe
def Jrl : JA
 | [.st 42 [.sc (.int .i64 a_D), .sc (.int .i64 a_U)]], [], k => g74 0 a_D a_U k
 | _, _, _ => none
def s74 : Sig := { own := [], run := Jrl }
theorem JLx : Jc tau Try.prog 74 s74 := JP Jn JAE Jo JFd JFe JAF [.ro] 0 [] Jrl (JLw 0) fun xs es k res hr => by
 unfold Jrl at hr
 split at hr
 · exact ⟨rfl, 0, (e74 0 _ _  _).trans hr⟩
 · cases hr
def inZ (x m : Int) : Bool := decide (x >= 0) && decide (x <= m)
def Jvy : List Int -> Bool
 | x :: m :: r => inZ x m && Jvy r
 | _ => true
def inA : List Int -> Bool := hid Jvy
theorem JAG (l : List Int) : inA l = Jvy l := by rw [inA, hid_eq]
theorem Jjs (a b c d : Int) : inA [a, b, c, d] = (inZ a b && inZ c d) := by rw [JAG]; simp [Jvy]
def Jk3 : JA
 | [.st 42 [.sc (.int .i64 a), .sc (.int .i64 b)]], [], k => k ⟨.sc (.bool (inA [a, 2, b, 7])), [], []⟩
 | _, _, _ => none
def JAH : Sig := { own := [], run := Jk3 }
theorem Jyg : Jc tau Try.prog 74 JAH := JLx.of fun xs es k res hr => by
 change Jk3 xs es k = some res at hr
 unfold Jk3 at hr
 split at hr
 · rename_i a b
   show g74 0 a b k = some res
   rw [Jjs] at hr
   unfold g74
   unfold inZ at hr
   by_cases h1 : a >= 0 <;> by_cases h2 : a < 3 <;> by_cases h3 : b >= 0 <;> by_cases h4 : b < 8 <;> simp [h1, h2, h3, h4, show (a <= 2) ↔ (a < 3) from by omega, show (b <= 7) ↔ (b < 8) from by omega] at hr ⊢ <;> exact hr
 · cases hr
def JFg : Fns := F0
theorem Jvz : Jq tau Try.prog JFg := Jt
def Jrm : An := (.seq .leaf (.seq .leaf .leaf))
def JFh (f : Nat) (n most : Int) (k : KR) : OR := bif decide (n >= 0) then k (Res.mk (.sc (.bool (decide (n <= most)))) [] []) else k (Res.mk (.sc (.bool false)) [] [])
theorem JLy (f : Nat) (n most : Int) (k : KR) : JK tau JFg Try.f122 (Try.f122.body.get!) Jrm [.ro] 0 [.sc (.int .i64 n), .sc (.int .i64 most)] [] k = JFh f n most k := by kernel_rfl
theorem JFi (f : Nat) : ∀ q ∈ Jg (Try.f122.body.get!) Jrm, q.Ok tau Try.prog 0 := Jx (by kernel_rfl)
theorem Jyh : Try.prog.funcs[122]? = some Try.f122 := by kernel_rfl
theorem Jyi : Try.f122.body = some (Try.f122.body.get!) := by kernel_rfl
theorem Jyj : Enters Try.prog 122 := enters_of Jyh (by kernel_rfl) Jyi
def Jk4 : JA
 | [.sc (.int .i64 n), .sc (.int .i64 most)], [], k => JFh 0 n most k
 | _, _, _ => none
def JAI : Sig := { own := [], run := Jk4 }
theorem Jyk : Jc tau Try.prog 122 JAI := JP Jn Jvz Jo Jyh Jyi Jrm [.ro] 0 [] Jk4 (JFi 0) fun xs es k res hr => by
 unfold Jk4 at hr
 split at hr
 · exact ⟨rfl, 0, (JLy 0 _ _  _).trans hr⟩
 · cases hr
def JFj : Fns := Js 122 JAI (F0)
theorem JvA : Jq tau Try.prog JFj := (Jt).add Jyk Jyj
def Jrn : An := (.seq .leaf (.seq .leaf .leaf))
def JFk (f : Nat) (a_D a_U : Int) (k : KR) : OR := bif decide (a_D >= 0) then bif decide (a_D <= 2) then bif decide (a_U >= 0) then k (Res.mk (.sc (.bool (decide (a_U <= 7)))) [] []) else k (Res.mk (.sc (.bool false)) [] []) else k (Res.mk (.sc (.bool false)) [] []) else k (Res.mk (.sc (.bool false)) [] [])
theorem JLz (f : Nat) (a_D a_U : Int) (k : KR) : JK tau JFj Try.f121 (Try.f121.body.get!) Jrn [.ro] 0 [.st 42 [.sc (.int .i64 a_D), .sc (.int .i64 a_U)]] [] k = JFk f a_D a_U k := by kernel_rfl
theorem JFl (f : Nat) : ∀ q ∈ Jg (Try.f121.body.get!) Jrn, q.Ok tau Try.prog 0 := Jx (by kernel_rfl)
theorem Jyl : Try.prog.funcs[121]? = some Try.f121 := by kernel_rfl
theorem Jym : Try.f121.body = some (Try.f121.body.get!) := by kernel_rfl
theorem JFm : Enters Try.prog 121 := enters_of Jyl (by kernel_rfl) Jym
def Jk5 : JA
 | [.st 42 [.sc (.int .i64 a_D), .sc (.int .i64 a_U)]], [], k => JFk 0 a_D a_U k
 | _, _, _ => none
def JFn : Sig := { own := [], run := Jk5 }
theorem JFo : Jc tau Try.prog 121 JFn := JP Jn JvA Jo Jyl Jym Jrn [.ro] 0 [] Jk5 (JFl 0) fun xs es k res hr => by
 unfold Jk5 at hr
 split at hr
 · exact ⟨rfl, 0, (JLz 0 _ _  _).trans hr⟩
 · cases hr
def F85 : Fns := Js 122 JAI (Js 121 JFn (Js 88 Jvw (F0)))
theorem JAJ : Jq tau Try.prog F85 := (((Jt).add Jrj JAy).add JFo JFm).add Jyk Jyj
def JAK : An := (.seq .leaf (.seq (.seq .leaf (.cond (.seq .leaf .leaf) .leaf)) (.seq (.seq .leaf (.block none (.seq .leaf (.cond (.seq (.seq .leaf (.seq .leaf (.cond (.seq .leaf .leaf) .leaf))) (.seq .leaf (.cond (.seq .leaf .leaf) .leaf))) (.seq (.seq .leaf (.cond .leaf .leaf)) (.cond (.seq .leaf (.cond (.seq .leaf .leaf) .leaf)) (.seq .leaf .leaf))))))) (.seq .leaf .leaf))))
def g85 (f : Nat) (y0 y1 d_Id y2 : Int) (y3 : List PV) (y4 : Int) (y5 y6 : Bool) (d_Op : List PV) (y7 y8 : Int) (k : KR) : OR := bif decide (y0 >= 0) then bif decide (y0 <= 2) then bif decide (y1 >= 0) then bif !decide (y1 <= 7) then k (Res.mk (.sc (.int .i64 1)) [] []) else bif decide (d_Id >= 0) then bif !decide (d_Id <= 1073741824) then k (Res.mk (.sc (.int .i64 1)) [] []) else bif decide (y2 >= 0) then bif !decide (y2 <= 1048576) then k (Res.mk (.sc (.int .i64 1)) [] []) else bif y4 == 1 then bif cOk d_Op then bif ckO d_Op != 0 then k (Res.mk (.sc (.int .i64 (ckO d_Op))) [] []) else bif !(y7 == 0 && (y8 == 0 && true)) then k (Res.mk (.sc (.int .i64 1)) [] []) else k (Res.mk (.sc (.int .i64 0)) [] []) else none else bif y4 == 2 then bif y4 == 2 then bif decide (zi d_Op.length > 0) then k (Res.mk (.sc (.int .i64 1)) [] []) else bif decide (y7 >= 0) then bif decide (y7 <= 2) then bif decide (y8 >= 0) then bif !decide (y8 <= 7) then k (Res.mk (.sc (.int .i64 1)) [] []) else k (Res.mk (.sc (.int .i64 0)) [] []) else k (Res.mk (.sc (.int .i64 1)) [] []) else k (Res.mk (.sc (.int .i64 1)) [] []) else k (Res.mk (.sc (.int .i64 1)) [] []) else k (Res.mk (.sc (.int .i64 3)) [] []) else bif y4 == 3 then bif decide (zi d_Op.length > 0) then k (Res.mk (.sc (.int .i64 1)) [] []) else bif decide (y7 >= 0) then bif decide (y7 <= 2) then bif decide (y8 >= 0) then bif !decide (y8 <= 7) then k (Res.mk (.sc (.int .i64 1)) [] []) else k (Res.mk (.sc (.int .i64 0)) [] []) else k (Res.mk (.sc (.int .i64 1)) [] []) else k (Res.mk (.sc (.int .i64 1)) [] []) else k (Res.mk (.sc (.int .i64 1)) [] []) else k (Res.mk (.sc (.int .i64 3)) [] []) else k (Res.mk (.sc (.int .i64 1)) [] []) else k (Res.mk (.sc (.int .i64 1)) [] []) else k (Res.mk (.sc (.int .i64 1)) [] []) else k (Res.mk (.sc (.int .i64 1)) [] []) else k (Res.mk (.sc (.int .i64 1)) [] [])
theorem e85 (f : Nat) (y0 y1 d_Id y2 : Int) (y3 : List PV) (y4 : Int) (y5 y6 : Bool) (d_Op : List PV) (y7 y8 : Int) (k : KR) : JK tau F85 Try.f85 (Try.f85.body.get!) JAK [.ro] 0 [.st 53 [.st 42 [.sc (.int .i64 y0), .sc (.int .i64 y1)], .sc (.int .i64 d_Id), .sc (.int .i64 y2), .ar 37 y3, .sc (.int .i64 y4), .ro 113 y5 y6 d_Op, .st 42 [.sc (.int .i64 y7), .sc (.int .i64 y8)]]] [] k = g85 f y0 y1 d_Id y2 y3 y4 y5 y6 d_Op y7 y8 k := by kernel_rfl
theorem JLA (f : Nat) : ∀ q ∈ Jg (Try.f85.body.get!) JAK, q.Ok tau Try.prog 0 := Jx (by kernel_rfl)
theorem JFp : Try.prog.funcs[85]? = some Try.f85 := by kernel_rfl
theorem JFq : Try.f85.body = some (Try.f85.body.get!) := by kernel_rfl
theorem JLB : Enters Try.prog 85 := enters_of JFp (by kernel_rfl) JFq
def Jro : JA
 | [.st 53 [.st 42 [.sc (.int .i64 y0), .sc (.int .i64 y1)], .sc (.int .i64 d_Id), .sc (.int .i64 y2), .ar 37 y3, .sc (.int .i64 y4), .ro 113 y5 y6 d_Op, .st 42 [.sc (.int .i64 y7), .sc (.int .i64 y8)]]], [], k => g85 0 y0 y1 d_Id y2 y3 y4 y5 y6 d_Op y7 y8 k
 | _, _, _ => none
def s85 : Sig := { own := [], run := Jro }
theorem JLC : Jc tau Try.prog 85 s85 := JP Jn JAJ Jo JFp JFq JAK [.ro] 0 [] Jro (JLA 0) fun xs es k res hr => by
 unfold Jro at hr
 split at hr
 · exact ⟨rfl, 0, (e85 0 _ _ _ _ _ _ _ _ _ _ _  _).trans hr⟩
 · cases hr
def F50 : Fns := Js 74 JAH (Js 59 Jvx (F0))
theorem JAL : Jq tau Try.prog F50 := ((Jt).add Jrk JAB).add Jyg JFf
def JAM : An := (.seq .leaf (.seq (.seq .leaf (.cond (.seq .leaf .leaf) .leaf)) (.seq (.seq .leaf (.block none (.seq .leaf (.cond (.seq .leaf (.seq (.seq .leaf (.cond (.seq .leaf .leaf) .leaf)) (.seq .leaf (.cond (.seq .leaf .leaf) .leaf)))) (.seq (.seq .leaf (.cond .leaf .leaf)) (.cond (.seq .leaf (.cond (.seq .leaf .leaf) .leaf)) (.seq .leaf .leaf))))))) (.seq .leaf .leaf))))
def g50 (f : Nat) (y0 y1 d_Id y2 : Int) (y3 : List PV) (y4 : Int) (y5 y6 : Bool) (d_Op : List PV) (y7 y8 : Int) (k : KR) : OR := bif !inA [y0, 2, y1, 7] then k (Res.mk (.sc (.int .i64 1)) [] []) else bif decide (d_Id < 0) then k (Res.mk (.sc (.int .i64 1)) [] []) else bif decide (d_Id > 1073741824) then k (Res.mk (.sc (.int .i64 1)) [] []) else bif decide (y2 < 0) then k (Res.mk (.sc (.int .i64 1)) [] []) else bif decide (y2 > 1048576) then k (Res.mk (.sc (.int .i64 1)) [] []) else bif y4 == 1 then bif cOk d_Op then bif ckO d_Op != 0 then k (Res.mk (.sc (.int .i64 (ckO d_Op))) [] []) else bif !(y7 == 0 && (y8 == 0 && true)) then k (Res.mk (.sc (.int .i64 1)) [] []) else k (Res.mk (.sc (.int .i64 0)) [] []) else none else bif y4 == 2 then bif y4 == 2 then bif decide (zi d_Op.length > 0) then k (Res.mk (.sc (.int .i64 1)) [] []) else bif !inA [y7, 2, y8, 7] then k (Res.mk (.sc (.int .i64 1)) [] []) else k (Res.mk (.sc (.int .i64 0)) [] []) else k (Res.mk (.sc (.int .i64 3)) [] []) else bif y4 == 3 then bif decide (zi d_Op.length > 0) then k (Res.mk (.sc (.int .i64 1)) [] []) else bif !inA [y7, 2, y8, 7] then k (Res.mk (.sc (.int .i64 1)) [] []) else k (Res.mk (.sc (.int .i64 0)) [] []) else k (Res.mk (.sc (.int .i64 3)) [] [])
theorem e50 (f : Nat) (y0 y1 d_Id y2 : Int) (y3 : List PV) (y4 : Int) (y5 y6 : Bool) (d_Op : List PV) (y7 y8 : Int) (k : KR) : JK tau F50 Try.f50 (Try.f50.body.get!) JAM [.ro] 0 [.st 53 [.st 42 [.sc (.int .i64 y0), .sc (.int .i64 y1)], .sc (.int .i64 d_Id), .sc (.int .i64 y2), .ar 37 y3, .sc (.int .i64 y4), .ro 113 y5 y6 d_Op, .st 42 [.sc (.int .i64 y7), .sc (.int .i64 y8)]]] [] k = g50 f y0 y1 d_Id y2 y3 y4 y5 y6 d_Op y7 y8 k := by kernel_rfl
theorem JLD (f : Nat) : ∀ q ∈ Jg (Try.f50.body.get!) JAM, q.Ok tau Try.prog 0 := Jx (by kernel_rfl)
theorem JFr : Try.prog.funcs[50]? = some Try.f50 := by kernel_rfl
theorem JFs : Try.f50.body = some (Try.f50.body.get!) := by kernel_rfl
theorem JLE : Enters Try.prog 50 := enters_of JFr (by kernel_rfl) JFs
def Jrp : JA
 | [.st 53 [.st 42 [.sc (.int .i64 y0), .sc (.int .i64 y1)], .sc (.int .i64 d_Id), .sc (.int .i64 y2), .ar 37 y3, .sc (.int .i64 y4), .ro 113 y5 y6 d_Op, .st 42 [.sc (.int .i64 y7), .sc (.int .i64 y8)]]], [], k => g50 0 y0 y1 d_Id y2 y3 y4 y5 y6 d_Op y7 y8 k
 | _, _, _ => none
def s50 : Sig := { own := [], run := Jrp }
theorem JLF : Jc tau Try.prog 50 s50 := JP Jn JAL Jo JFr JFs JAM [.ro] 0 [] Jrp (JLD 0) fun xs es k res hr => by
 unfold Jrp at hr
 split at hr
 · exact ⟨rfl, 0, (e50 0 _ _ _ _ _ _ _ _ _ _ _  _).trans hr⟩
 · cases hr





def JFt : Fns := F0
theorem JvB : Jq tau Try.prog JFt := Jt
def Jrq : An := (.seq .leaf (.cond .leaf .leaf))
def JFu (f : Nat) (y0 y1 : Bool) (r_b : List PV) (r_e e : Int) (k : KR) : OR := bif r_e == 0 then k (Res.mk (.tup []) [.box false 166 (PV.st 166 [.ro 5 y0 y1 r_b, .sc (.int .i64 e)])] []) else k (Res.mk (.tup []) [.box false 166 (PV.st 166 [.ro 5 y0 y1 r_b, .sc (.int .i64 r_e)])] [])
theorem JLG (f : Nat) (y0 y1 : Bool) (r_b : List PV) (r_e e : Int) (k : KR) : JK tau JFt Try.f107 (Try.f107.body.get!) Jrq [] 0 [.ptr 0 [], .sc (.int .i64 e)] [.box false 166 (.st 166 [.ro 5 y0 y1 r_b, .sc (.int .i64 r_e)])] k = JFu f y0 y1 r_b r_e e k := by kernel_rfl
theorem JFv (f : Nat) : ∀ q ∈ Jg (Try.f107.body.get!) Jrq, q.Ok tau Try.prog 1 := Jx (by kernel_rfl)
theorem Jyn : Try.prog.funcs[107]? = some Try.f107 := by kernel_rfl
theorem Jyo : Try.f107.body = some (Try.f107.body.get!) := by kernel_rfl
theorem Jyp : Enters Try.prog 107 := enters_of Jyn (by kernel_rfl) Jyo
def Jk6 : JA
 | [.ptr 0 [], .sc (.int .i64 e)], [.box false 166 (.st 166 [.ro 5 y0 y1 r_b, .sc (.int .i64 r_e)])], k => JFu 0 y0 y1 r_b r_e e k
 | _, _, _ => none
def JAN : Sig := { own := [], run := Jk6 }
theorem Jyq : Jc tau Try.prog 107 JAN := JP Jn JvB Jo Jyn Jyo Jrq [] 1 [] Jk6 (JFv 0) fun xs es k res hr => by
 unfold Jk6 at hr
 split at hr
 · exact ⟨rfl, 0, (JLG 0 _ _ _ _ _  _).trans hr⟩
 · cases hr
def JFw : Fns := Js 107 JAN (F0)
theorem JvC : Jq tau Try.prog JFw := (Jt).add Jyq Jyp
def Jrr : An := (.seq .leaf (.seq (.seq .leaf (.cond .leaf .leaf)) (.seq (.seq .leaf (.cond (.seq .leaf .leaf) .leaf)) (.seq .leaf (.seq .leaf (.seq .leaf .leaf))))))
abbrev Jhf (y0 : Bool) (y1 : Bool) (r_b : List PV) (r_e : Int) (n : Int) := (Res.mk (PV.ro 5 y0 (y0 || y1 && false) (List.take n.toNat r_b)) [.box false 166 (PV.st 166 [PV.ro 5 y0 (y0 || y1 && true) (List.drop n.toNat (List.take r_b.length r_b)), PV.sc (.int .i64 r_e)])] [])
def JvD (f : Nat) (y0 y1 : Bool) (r_b : List PV) (r_e n : Int) (k : KR) : OR := bif decide (n > zi r_b.length) then bif r_e == 0 then k (Res.mk (.ro 5 true true []) [.box false 166 (PV.st 166 [.ro 5 y0 y1 r_b, .sc (.int .i64 8)])] []) else bif r_e != 0 then k (Res.mk (.ro 5 true true []) [.box false 166 (PV.st 166 [.ro 5 y0 y1 r_b, .sc (.int .i64 r_e)])] []) else bif decide (0 <= n) && true && decide (n.toNat <= r_b.length) && true then bif decide (0 <= n) && true && decide (n.toNat <= r_b.length) && decide (r_b.length <= r_b.length) && true then k (Jhf y0 y1 r_b r_e n) else none else none else bif r_e != 0 then k (Res.mk (.ro 5 true true []) [.box false 166 (PV.st 166 [.ro 5 y0 y1 r_b, .sc (.int .i64 r_e)])] []) else bif decide (0 <= n) && true && decide (n.toNat <= r_b.length) && true then bif decide (0 <= n) && true && decide (n.toNat <= r_b.length) && decide (r_b.length <= r_b.length) && true then k (Jhf y0 y1 r_b r_e n) else none else none
theorem JLH (f : Nat) (y0 y1 : Bool) (r_b : List PV) (r_e n : Int) (k : KR) : JK tau JFw Try.f119 (Try.f119.body.get!) Jrr [.ro] 0 [.ptr 0 [], .sc (.int .i64 n)] [.box false 166 (.st 166 [.ro 5 y0 y1 r_b, .sc (.int .i64 r_e)])] k = JvD f y0 y1 r_b r_e n k := by kernel_rfl
theorem JFx (f : Nat) : ∀ q ∈ Jg (Try.f119.body.get!) Jrr, q.Ok tau Try.prog 1 := Jx (by kernel_rfl)
theorem Jyr : Try.prog.funcs[119]? = some Try.f119 := by kernel_rfl
theorem Jys : Try.f119.body = some (Try.f119.body.get!) := by kernel_rfl
theorem Jyt : Enters Try.prog 119 := enters_of Jyr (by kernel_rfl) Jys
def Jk7 : JA
 | [.ptr 0 [], .sc (.int .i64 n)], [.box false 166 (.st 166 [.ro 5 y0 y1 r_b, .sc (.int .i64 r_e)])], k => JvD 0 y0 y1 r_b r_e n k
 | _, _, _ => none
def JLI : Sig := { own := [], run := Jk7 }
theorem JFy : Jc tau Try.prog 119 JLI := JP Jn JvC Jo Jyr Jys Jrr [.ro] 1 [] Jk7 (JFx 0) fun xs es k res hr => by
 unfold Jk7 at hr
 split at hr
 · exact ⟨rfl, 0, (JLH 0 _ _ _ _ _  _).trans hr⟩
 · cases hr
structure RS where
 b : List PV
 e : Int
def byB (l : List PV) : Bool := l.all fun p => p.isInt .u8 && (decide (0 <= p.int) && decide (p.int < 256))
def WX : List Int -> Int
 | [] => 0
 | x :: r => x + 256 * WX r
def Xw (n : Nat) (s : RS) : Bool := s.e == 0 && Nat.ble n s.b.length
def Qk (n : Nat) (s : RS) : RS := bif Xw n s then ⟨s.b.drop n, 0⟩ else ⟨s.b, bif s.e == 0 then 8 else s.e⟩
def J8 (n : Nat) (s : RS) : List PV := bif Xw n s then s.b.take n else []
def WN (n : Nat) (s : RS) : Int := IntKind.i64.wrap (WX (JD (J8 n s)))
def okS : Nat -> RS -> Bool := hid Xw
def V8 : Nat -> RS -> List PV := hid J8
theorem Jk8 (n : Nat) (s : RS) : okS n s = Xw n s := by rw [okS, hid_eq]
theorem Zc (n : Nat) (s : RS) : V8 n s = J8 n s := by rw [V8, hid_eq]
def Jb : Nat -> RS -> RS := hid Qk
def Jz : Nat -> RS -> Int := hid WN
theorem XV (n : Nat) (s : RS) : Jb n s = Qk n s := by rw [Jb, hid_eq]
theorem Zd (n : Nat) (s : RS) : Jz n s = WN n s := by rw [Jz, hid_eq]
def Jjt (s : RS) : RS := Qk (WN 2 s).toNat (Qk 2 s)
def JcW (s : RS) : ByteArray := ⟨(JY (J8 (WN 2 s).toNat (Qk 2 s))).toArray⟩
def Qe : RS -> RS := hid Jjt
def JU : RS -> ByteArray := hid JcW
theorem Jdo (s : RS) : Qe s = Jjt s := by rw [Qe, hid_eq]
theorem Jhg (s : RS) : JU s = JcW s := by rw [JU, hid_eq]
theorem Xx {l : List PV} : byB l = true ↔ Jl .u8 l = true /\ ∀ x ∈ JD l, 0 <= x /\ x < 256 := by
 induction l with
 | nil => simp [byB, Jl, JD]
 | cons p ps ih =>
  have e1 : byB (p :: ps) = ((p.isInt .u8 && (decide (0 <= p.int) && decide (p.int < 256))) && byB ps) := rfl
  have e2 : JD (p :: ps) = p.int :: JD ps := rfl
  have e3 : Jl .u8 (p :: ps) = (p.isInt .u8 && Jl .u8 ps) := rfl
  rw [e1, e2, e3]
  simp only [Bool.and_eq_true, decide_eq_true_eq, List.mem_cons, forall_eq_or_imp, ih]
  constructor
  · rintro ⟨⟨h1, h2⟩, h3, h4⟩
    exact ⟨⟨h1, h3⟩, h2, h4⟩
  · rintro ⟨⟨h1, h3⟩, h2, h4⟩
    exact ⟨⟨h1, h2⟩, h3, h4⟩
theorem Jrs {l : List PV} (h : byB l = true) (n : Nat) : byB (l.take n) = true := List.all_eq_true.2 fun p hp => List.all_eq_true.1 h p (List.mem_of_mem_take hp)
theorem Jju {l : List PV} (h : byB l = true) (n : Nat) : byB (l.drop n) = true := List.all_eq_true.2 fun p hp => List.all_eq_true.1 h p (List.mem_of_mem_drop hp)
theorem Jk9 {l : List Int} : byB (pu .u8 l) = true ↔ ∀ x ∈ l, 0 <= x /\ x < 256 := by rw [Xx]; simp
theorem YQ {s : RS} (h : byB s.b = true) (n : Nat) : byB (Qk n s).b = true := by
 unfold Qk; cases Xw n s
 · exact h
 · exact Jju h n
theorem Ze {s : RS} (h : byB s.b = true) (n : Nat) : byB (J8 n s) = true := by
 unfold J8; cases Xw n s
 · rfl
 · exact Jrs h n
theorem WY (n : Nat) (s : RS) : (J8 n s).length <= n := by
 unfold J8; cases Xw n s
 · exact Nat.zero_le _
 · simp; omega
theorem Yj : ∀ (l : List Int), (∀ x ∈ l, 0 <= x /\ x < 256) -> 0 <= WX l /\ WX l < 256 ^ l.length
 | [], h => by simp [WX]
 | x :: r, h => by
  have h1 := h x List.mem_cons_self
  have h2 := Yj r fun y hy => h y (List.mem_cons_of_mem _ hy)
  simp only [WX, List.length_cons, Int.pow_succ]
  generalize (256 : Int) ^ r.length = B at *
  omega
theorem XW {s : RS} (h : byB s.b = true) {n : Nat} (hn : n <= 2) : 0 <= WN n s /\ WN n s < 65536 := by
 have h1 := Yj (JD (J8 n s)) (Xx.1 (Ze h n)).2
 have h2 : (JD (J8 n s)).length <= 2 := by rw [QW]; exact Nat.le_trans (WY n s) hn
 have h3 : (256 : Int) ^ (JD (J8 n s)).length <= 65536 := by
  generalize (JD (J8 n s)).length = m at *
  match m, h2 with
  | 0, _ => decide
  | 1, _ => decide
  | 2, _ => decide
 unfold WN
 rw [wrap_i64 (by omega) (by omega)]; omega
structure RT where
 B : List PV
 P : Int
 e : Int
def RT.view (t : RT) : RS := ⟨t.B.drop t.P.toNat, t.e⟩
def okT (t : RT) : Bool := decide (0 <= t.P) && (decide (t.P <= (t.B.length : Int)) && (byB t.B && Nat.ble t.B.length 1000000000))
def QY (n : Nat) (t : RT) : RT := bif Xw n t.view then ⟨t.B, ((t.P.toNat + n : Nat) : Int), 0⟩ else ⟨t.B, t.P, bif t.e == 0 then 8 else t.e⟩
def Jh : Nat -> RT -> RT := hid QY
def Qm : Nat -> RT -> Int := hid fun n t => WN n t.view
def JaC (t : RT) : RT := QY (WN 2 t.view).toNat (QY 2 t)
def QZ : RT -> RT := hid JaC
def XX : RT -> ByteArray := hid fun t => JcW t.view
theorem Xn (n : Nat) (t : RT) : Jh n t = QY n t := by rw [Jh, hid_eq]
theorem Jdp (n : Nat) (t : RT) : Qm n t = WN n t.view := by rw [Qm, hid_eq]
theorem Jhh (t : RT) : QZ t = JaC t := by rw [QZ, hid_eq]
theorem Jjv (t : RT) : XX t = JcW t.view := by rw [XX, hid_eq]
theorem YR (n : Nat) (t : RT) : (QY n t).view = Qk n t.view := by
 unfold QY Qk
 cases Xw n t.view with
 | true => simp only [cond_true, RT.view, Int.toNat_natCast, List.drop_drop]
 | false => simp only [cond_false, RT.view]
theorem Jrt (t : RT) : (JaC t).view = Jjt t.view := by simp only [JaC, Jjt, YR]
@[simp] theorem WF (n : Nat) (t : RT) : Qm n t = Jz n t.view := by rw [Jdp, Zd]
@[simp] theorem Qn (n : Nat) (t : RT) : (Jh n t).view = Jb n t.view := by rw [Xn, XV, YR]
@[simp] theorem Jge (t : RT) : (QZ t).view = Qe t.view := by rw [Jhh, Jdo, Jrt]
@[simp] theorem Jgf (t : RT) : XX t = JU t.view := by rw [Jjv, Jhg]
theorem ZZ {t : RT} (h : okT t = true) (n : Nat) : okT (QY n t) = true := by
 have h' := h
 simp only [okT, Bool.and_eq_true, decide_eq_true_eq, Nat.ble_eq] at h ⊢
 unfold QY
 cases hk : Xw n t.view with
 | true =>
  simp only [cond_true]
  have hn : n <= (t.B.drop t.P.toNat).length := by
   simp only [Xw, RT.view, Bool.and_eq_true, Nat.ble_eq] at hk; exact hk.2
  rw [List.length_drop] at hn
  refine ⟨by omega, by omega, h.2.2⟩
 | false => exact h
theorem JvE {t : RT} (h : okT t = true) : okT (JaC t) = true := ZZ (ZZ h _) _
@[simp] theorem QF {t : RT} (h : okT t = true) (n : Nat) : okT (Jh n t) = true := by rw [Xn]; exact ZZ h n
@[simp] theorem Jjw {t : RT} (h : okT t = true) : okT (QZ t) = true := by rw [Jhh]; exact JvE h
theorem Jru {s : RS} (h : s.e ≠ 0) (n : Nat) : Xw n s = false := by
 unfold Xw
 have : (s.e == 0) = false := by simpa using h
 rw [this]; rfl
theorem JaD {s : RS} (h : s.e ≠ 0) (n : Nat) : Qk n s = s := by
 unfold Qk
 have : (s.e == 0) = false := by simpa using h
 rw [Jru h, cond_false, this, cond_false]
theorem Jql {t : RT} (h : t.e ≠ 0) (n : Nat) : QY n t = t := by
 unfold QY
 have : (t.e == 0) = false := by simpa using h
 rw [Jru (s := t.view) h, cond_false, this, cond_false]
abbrev rdP (z f : Bool) (s : RS) : Ent := .box false 166 (.st 166 [.ro 5 z f s.b, .sc (.int .i64 s.e)])
def Jhi : JA
 | [.ptr 0 [], .sc (.int .i64 n)], [.box false 166 (.st 166 [.ro 5 z f b, .sc (.int .i64 e)])], k =>
  bif (!z || f) && decide (0 <= n) then k ⟨.ro 5 (!okS n.toNat ⟨b, e⟩ || z) (!okS n.toNat ⟨b, e⟩ || z) (V8 n.toNat ⟨b, e⟩), [rdP z f (Jb n.toNat ⟨b, e⟩)], []⟩ else none
 | _, _, _ => none
def Jrv : Sig := { own := [], run := Jhi }
theorem JvF (z f : Bool) (b : List PV) (e n : Int) (hz : (!z || f) = true) (hn : 0 <= n) (k : KR) :
   JvD 0 z f b e n k = k ⟨.ro 5 (!okS n.toNat ⟨b, e⟩ || z) (!okS n.toNat ⟨b, e⟩ || z) (V8 n.toNat ⟨b, e⟩), [rdP z f (Jb n.toNat ⟨b, e⟩)], []⟩ := by
 rw [Jk8, Zc, XV]
 have hzf : (z || f) = f := by cases z <;> cases f <;> simp_all
 have hz2 : (z || f && false) = z := by cases z <;> cases f <;> rfl
 unfold JvD Jhf
 by_cases c1 : n > zi b.length
 · have hk : Nat.ble n.toNat b.length = false := by
     cases h : Nat.ble n.toNat b.length with
     | false => rfl
     | true => rw [Nat.ble_eq] at h; simp only [zi] at c1; omega
   rw [Ja (by simpa using c1)]
   by_cases c2 : e = 0
   · subst c2
     simp only [beq_self_eq_true, cond_true]
     simp [Xw, J8, Qk, hk]
   · have hb : (e == 0) = false := by simpa using c2
     have hb2 : (e != 0) = true := by simpa using c2
     simp only [hb, hb2, cond_true, cond_false]
     simp [Xw, J8, Qk, hb]
 · rw [Jd (by simpa using c1)]
   by_cases c2 : e = 0
   · subst c2
     have hk : Nat.ble n.toNat b.length = true := by rw [Nat.ble_eq]; simp only [zi] at c1; omega
     have hk' : n.toNat <= b.length := by rw [Nat.ble_eq] at hk; exact hk
     have h00 : ((0 : Int) != 0) = false := by decide
     simp only [h00, cond_false]
     rw [Ja (by simp; omega), Ja (by simp; omega)]
     simp [Xw, J8, Qk, hk, hzf, hz2]
   · have hb : (e == 0) = false := by simpa using c2
     have hb2 : (e != 0) = true := by simpa using c2
     simp only [hb2, cond_true]
     simp [Xw, J8, Qk, hb]
theorem Jrw : Jc tau Try.prog 119 Jrv := JFy.of fun xs es k res hr => by
 change Jhi xs es k = some res at hr
 unfold Jhi at hr
 split at hr
 · obtain ⟨hc, hr⟩ := Jw hr
   simp only [Bool.and_eq_true, decide_eq_true_eq] at hc
   exact (JvF _ _ _ _ _ hc.1 hc.2 _).trans hr
 · cases hr
def Jrx : Nat := 27
def JAO : Fns := Js 119 Jrv (F0)
theorem Job : Jq tau Try.prog JAO := (Jt).add Jrw Jyt
def Jhj : Code := Qj (Try.f118.body.get!) [1, 1, 0, 1, 0, 0]
def JaE : Nm := [(5, .any), (10, .any), (11, .any), (12, .any)]
def Jhk : Nm := [(5, .any)]
def Jla : An := (.seq .leaf (.seq (.cond .leaf .leaf) (.seq (.block none (.seq .leaf .leaf)) .leaf)))
def Joc (r0 : Qz) : An := (.seq .leaf (.seq .leaf (.seq (.seq .leaf (.block none (.sum JaE Jrx r0))) (.seq .leaf .leaf))))
abbrev Jod := Int -> Bool -> Bool -> List PV -> Int -> Int -> Bool -> Bool -> List PV -> Int -> OR
def Z0 (f : Nat) (rc : Jod) (k0 : Int -> Bool -> Bool -> List PV -> Int -> OR) (v0 : Int) (v1 v2 : Bool) (v3 : List PV) (v4 v5 : Int) (v6 v7 : Bool) (v8 : List PV) (v9 : Int) : OR := bif decide (v5 < v4) then bif decide (0 <= v5) && decide (v5 < zi v3.length) && PV.isInt IntKind.u8 (v3.getD v5.toNat PV.top) && true then bif decide (0 <= IntKind.i64.wrap (8 * v5)) && true then rc (JM BinOp.or IntKind.u64 v0 (Xt IntKind.u64 (IntKind.u64.wrap (v3.getD v5.toNat PV.top).int) (IntKind.i64.wrap (8 * v5)))) v1 v2 v3 v4 (IntKind.i64.wrap (v5 + 1)) v6 v7 v8 v9 else none else none else k0 v0 v6 v7 v8 v9
def Zf (f : Nat) (k0 : Int -> Bool -> Bool -> List PV -> Int -> OR) : Nat -> Jod
 | 0 => fun _ _ _ _ _ _ _ _ _ _ => none
 | n + 1 => Z0 f (Zf f k0 n) k0
def VJ (k : Kont) := fun x0 x1 x2 x3 x4 => k (Ex.exit 0) (Jj Jhk Jrx [.sc (.int .u64 x0)] [(0, .box false 166 (PV.st 166 [.ro 5 x1 x2 x3, .sc (.int .i64 x4)]))])
def Jhl (f : Nat) (k : Kont) (n : Nat) (v0 : Int) (v1 v2 : Bool) (v3 : List PV) (v4 v5 : Int) (v6 v7 : Bool) (v8 : List PV) (v9 : Int) : OR := Jy tau 1 JaE (fun s k => ev tau JAO 1 0 Jhj (Jla ) s k) n (Jj JaE Jrx [.sc (.int .u64 v0), .ro 5 v1 v2 v3, .sc (.int .i64 v4), .sc (.int .i64 v5)] [(0, .box false 166 (PV.st 166 [.ro 5 v6 v7 v8, .sc (.int .i64 v9)]))]) (JI tau 1 Jhk k)
theorem Jry (f : Nat) (k : Kont) (n : Nat) : Jhl f k (n + 1) = Z0 f (Jhl f k n) (VJ k) := by kernel_rfl
theorem Jjx (f : Nat) (k : Kont) : ∀ n, Jhl f k n = Zf f (VJ k) n
 | 0 => rfl
 | n + 1 => (Jry f k n).trans (congrArg (fun r => Z0 f r (VJ k)) (Jjx f k n))
def Gu (f : Nat) : List PV -> List (Nat × Ent) -> Kont -> OR
 | [.sc (.int .u64 v0), .ro 5 v1 v2 v3, .sc (.int .i64 v4),
 PV.sc
  (Value.int IntKind.i64
   v5)], [(0,
  Ent.box false 166
   (PV.st 166
    [.ro 5 v6 v7 v8,
     PV.sc
      (Value.int IntKind.i64
       v9)]))], k => Zf f (VJ k) f v0 v1 v2 v3 v4 v5 v6 v7 v8 v9
 | _, _, _ => none
theorem JvG (f : Nat) : Jg Jhj Jla = [] := by kernel_rfl
theorem JvH (f : Nat) : (Item.l Jhj JaE Jrx (Gu f)).Ok tau Try.prog 1 := Ju Jn Job Jo (x := Jla) (nm2 := Jhk) (Jk _ _ (by rw [JvG f]; intro q hq; cases hq)) fun vs hp k res hr => by
 unfold Gu at hr
 split at hr
 · rw [← Jjx f] at hr; exact ⟨f, 0, hr⟩
 · cases hr
def JAP (f : Nat) (y0 y1 : Bool) (r_b : List PV) (r_e n : Int) (k : KR) : OR := bif (!y0 || y1) && decide (0 <= n) then Zf f (fun x0_0 x1_0 x2_0 JR x4_0 => k (Res.mk (.sc (.int .i64 (IntKind.i64.wrap x0_0))) [.box false 166 (PV.st 166 [.ro 5 x1_0 x2_0 JR, .sc (.int .i64 x4_0)])] [])) f (0) (!okS n.toNat (RS.mk r_b r_e) || y0) (!okS n.toNat (RS.mk r_b r_e) || y0) (V8 n.toNat (RS.mk r_b r_e)) (zi (V8 n.toNat (RS.mk r_b r_e)).length) (0) y0 y1 ((Jb n.toNat (RS.mk r_b r_e)).b) ((Jb n.toNat (RS.mk r_b r_e)).e) else none
theorem JLJ (f : Nat) (y0 y1 : Bool) (r_b : List PV) (r_e n : Int) (k : KR) : JK tau JAO Try.f118 (Try.f118.body.get!) (Joc (Gu f)) [.ro] 0 [.ptr 0 [], .sc (.int .i64 n)] [.box false 166 (.st 166 [.ro 5 y0 y1 r_b, .sc (.int .i64 r_e)])] k = JAP f y0 y1 r_b r_e n k := by kernel_rfl
theorem JFz (f : Nat) : Jg (Try.f118.body.get!) (Joc (Gu f)) = [.l Jhj JaE Jrx (Gu f)] := by kernel_rfl
theorem JFA (f : Nat) : ∀ q ∈ Jg (Try.f118.body.get!) (Joc (Gu f)), q.Ok tau Try.prog 1 := by rw [JFz f]; exact JL (JvH f) (fun _ h => nomatch h)
theorem Jyu : Try.prog.funcs[118]? = some Try.f118 := by kernel_rfl
theorem Jyv : Try.f118.body = some (Try.f118.body.get!) := by kernel_rfl
theorem Jrz : Enters Try.prog 118 := enters_of Jyu (by kernel_rfl) Jyv
theorem Jgg : ∀ (l : List Int) (x : Int), WX (l ++ [x]) = WX l + x * 256 ^ l.length
 | [], x => by simp [WX]
 | y :: r, x => by
  simp only [List.cons_append, WX, Jgg r x, List.length_cons, Int.pow_succ]
  have : x * (256 ^ r.length * 256) = 256 * (x * 256 ^ r.length) := by rw [Int.mul_comm 256, Int.mul_assoc]
  omega
theorem Jlb (i : Nat) : (256 : Int) ^ i = 2 ^ (8 * i) := by rw [Int.pow_mul]; rfl
theorem Jjy {v y : Int} {j : Nat} (hj : j <= 64) (hv0 : 0 <= v) (hv : v < 2 ^ j) (hy0 : 0 <= y) (hy : y * 2 ^ j < 2 ^ 64) : JM .or .u64 v (y * 2 ^ j) = v + y * 2 ^ j := by
 obtain ⟨a, rfl⟩ := Int.eq_ofNat_of_zero_le hv0
 obtain ⟨b, rfl⟩ := Int.eq_ofNat_of_zero_le hy0
 have e1 : ((b : Int)) * 2 ^ j = ((b * 2 ^ j : Nat) : Int) := by rw [Int.natCast_mul, Int.natCast_pow]; rfl
 have e2 : ((2 : Int)) ^ j = ((2 ^ j : Nat) : Int) := by rw [Int.natCast_pow]; rfl
 have e3 : ((2 : Int)) ^ 64 = ((2 ^ 64 : Nat) : Int) := by rw [Int.natCast_pow]; rfl
 rw [e2] at hv
 rw [e1, e3] at hy
 have ha : a < 2 ^ j := Int.ofNat_lt.1 hv
 have hb : b * 2 ^ j < 2 ^ 64 := Int.ofNat_lt.1 hy
 rw [e1]
 have hor : a ||| b * 2 ^ j = a + b * 2 ^ j := by
  have h := Nat.shiftLeft_add_eq_or_of_lt ha b
  rw [Nat.shiftLeft_eq] at h
  rw [Nat.or_comm, ← h, Nat.add_comm]
 have ha2 : a < 2 ^ 64 := Nat.lt_of_lt_of_le ha (Nat.pow_le_pow_right (by omega) hj)
 have hsum : a + b * 2 ^ j < 2 ^ 64 := by rw [← hor]; exact Nat.or_lt_two_pow ha2 hb
 generalize hc : b * 2 ^ j = c at *
 have ht : (BitVec.ofInt 64 (a : Int) ||| BitVec.ofInt 64 (c : Int)).toNat = a + c := by
  rw [BitVec.toNat_or, BitVec.ofInt_natCast, BitVec.ofInt_natCast, BitVec.toNat_ofNat, BitVec.toNat_ofNat, Nat.mod_eq_of_lt ha2, Nat.mod_eq_of_lt hb, hor]
 show IntKind.u64.wrap ((BitVec.ofInt 64 (a : Int) ||| BitVec.ofInt 64 (c : Int)).toNat : Int) = _
 rw [ht, QX]
 have h64 : (2 : Nat) ^ 64 = 18446744073709551616 := by decide
 rw [h64] at hsum
 omega
theorem JrA {x : Int} (h0 : 0 <= x) (h1 : x < 256) {i : Nat} (hi : i < 8) : Xt .u64 (IntKind.u64.wrap x) (8 * (i : Int)) = x * 2 ^ (8 * i) := by
 rw [QX, Int.emod_eq_of_lt h0 (by omega), Xt, QX]
 have : min (8 * (i : Int)).toNat IntKind.u64.bits = 8 * i := by
  have : IntKind.u64.bits = 64 := rfl
  rw [this]; omega
 rw [this]
 have hp : (2 : Int) ^ (8 * i) <= 2 ^ 56 := by
  have h : (2 ^ (8 * i) : Nat) <= 2 ^ 56 := Nat.pow_le_pow_right (by omega) (by omega)
  have e2 : ((2 : Int)) ^ (8 * i) = ((2 ^ (8 * i) : Nat) : Int) := by rw [Int.natCast_pow]; rfl
  have e3 : ((2 : Int)) ^ 56 = ((2 ^ 56 : Nat) : Int) := by rw [Int.natCast_pow]; rfl
  rw [e2, e3]; exact Int.ofNat_le.2 h
 have hp0 : (0 : Int) <= 2 ^ (8 * i) := Int.le_of_lt (by
   have e2 : ((2 : Int)) ^ (8 * i) = ((2 ^ (8 * i) : Nat) : Int) := by rw [Int.natCast_pow]; rfl
   rw [e2]; exact Int.ofNat_lt.2 (Nat.two_pow_pos _))
 have h56 : (2 : Int) ^ 56 = 72057594037927936 := by decide
 rw [h56] at hp
 have hm : x * 2 ^ (8 * i) <= 255 * 2 ^ (8 * i) := Int.mul_le_mul_of_nonneg_right (by omega) hp0
 have hm0 : 0 <= x * 2 ^ (8 * i) := Int.mul_nonneg h0 hp0
 exact Int.emod_eq_of_lt hm0 (by omega)
theorem JrB (L : List Int) (hL : ∀ x ∈ L, 0 <= x /\ x < 256) (h8 : L.length <= 8) (f : Nat) (k0 : Int -> Bool -> Bool -> List PV -> Int -> OR) (a b c d : Bool) (R : List PV) (e : Int) : ∀ (dd i n : Nat), i + dd = L.length -> dd < n ->
  Zf f k0 n (WX (L.take i)) a b (pu .u8 L) (L.length : Int) (i : Int) c d R e = k0 (WX L) c d R e
 | 0, i, n + 1, h, hn => by
   obtain rfl : i = L.length := by omega
   simp only [Zf, Z0, List.take_length]
   exact Jd (by simp)
 | dd + 1, i, n + 1, h, hn => by
   have g1 := tI i
   have h1 := wI (i := i) (by omega)
   have h2 : IntKind.i64.wrap (8 * (i : Int)) = 8 * (i : Int) := wrap_i64 (by omega) (by omega)
   have hi : i < L.length := by omega
   have hx := hL (L.getD i 0) (by rw [List.getD_eq_getElem?_getD, List.getElem?_eq_getElem hi]; exact List.getElem_mem hi)
   simp only [Zf, Z0, g1, h1, h2]
   rw [J7 hi, QI hi]
   refine (Ja (by simp; omega)).trans ((Ja (by simp [zi]; omega)).trans ((Ja (by simp; omega)).trans ?_))
   have ht : L.take (i + 1) = L.take i ++ [L.getD i 0] := by
    rw [List.take_add_one, List.getD_eq_getElem?_getD, List.getElem?_eq_getElem hi]; rfl
   have hb := Yj (L.take i) fun x hx => hL x (List.mem_of_mem_take hx)
   have hlen : (L.take i).length = i := by rw [List.length_take]; omega
   rw [hlen, Jlb] at hb
   have hs := JrA hx.1 hx.2 (i := i) (by omega)
   have hlt : L.getD i 0 * 2 ^ (8 * i) < 2 ^ 64 := by
    have hp : (2 : Int) ^ (8 * i) <= 2 ^ 56 := by
     have h : (2 ^ (8 * i) : Nat) <= 2 ^ 56 := Nat.pow_le_pow_right (by omega) (by omega)
     have e2 : ((2 : Int)) ^ (8 * i) = ((2 ^ (8 * i) : Nat) : Int) := by rw [Int.natCast_pow]; rfl
     have e3 : ((2 : Int)) ^ 56 = ((2 ^ 56 : Nat) : Int) := by rw [Int.natCast_pow]; rfl
     rw [e2, e3]; exact Int.ofNat_le.2 h
    have hp0 : (0 : Int) <= 2 ^ (8 * i) := by omega
    have h56 : (2 : Int) ^ 56 = 72057594037927936 := by decide
    have h64 : (2 : Int) ^ 64 = 18446744073709551616 := by decide
    rw [h56] at hp; rw [h64]
    have hm : L.getD i 0 * 2 ^ (8 * i) <= 255 * 2 ^ (8 * i) := Int.mul_le_mul_of_nonneg_right (by omega) hp0
    omega
   rw [hs, Jjy (by omega) hb.1 hb.2 hx.1 hlt]
   have hn1 : WX (L.take i) + L.getD i 0 * 2 ^ (8 * i) = WX (L.take (i + 1)) := by
    rw [ht, Jgg, hlen, Jlb]
   rw [hn1]
   exact JrB L hL h8 f k0 a b c d R e dd (i + 1) n (by omega) (by omega)
def Jhm : JA
 | [.ptr 0 [], .sc (.int .i64 n)], [.box false 166 (.st 166 [.ro 5 z f b, .sc (.int .i64 e)])], k =>
  bif (!z || f) && (decide (0 <= n) && decide (n <= 8)) && byB b then k ⟨.sc (.int .i64 (Jz n.toNat ⟨b, e⟩)), [rdP z f (Jb n.toNat ⟨b, e⟩)], []⟩ else none
 | _, _, _ => none
def Joe : Sig := { own := [], run := Jhm }
theorem JvI (z f : Bool) (b : List PV) (e n : Int) (hz : (!z || f) = true) (hn : 0 <= n) (hn8 : n <= 8) (hb : byB b = true) (k : KR) :
  JAP 20 z f b e n k = k ⟨.sc (.int .i64 (Jz n.toNat ⟨b, e⟩)), [rdP z f (Jb n.toNat ⟨b, e⟩)], []⟩ := by
 unfold JAP
 rw [Ja (by rw [hz]; simpa using hn), Zd, Zc]
 have ho : byB (J8 n.toNat ⟨b, e⟩) = true := Ze hb _
 have hoi := Xx.1 ho
 have hl : (JD (J8 n.toNat ⟨b, e⟩)).length <= 8 := by rw [QW]; exact Nat.le_trans (WY _ _) (by omega)
 have hL := JrB (JD (J8 n.toNat ⟨b, e⟩)) hoi.2 hl 20 (fun x0_0 x1_0 x2_0 JR x4_0 => k (Res.mk (.sc (.int .i64 (IntKind.i64.wrap x0_0))) [.box false 166 (.st 166 [.ro 5 x1_0 x2_0 JR, .sc (.int .i64 x4_0)])] [])) (!okS n.toNat ⟨b, e⟩ || z) (!okS n.toNat ⟨b, e⟩ || z) z f (Jb n.toNat ⟨b, e⟩).b (Jb n.toNat ⟨b, e⟩).e (JD (J8 n.toNat ⟨b, e⟩)).length 0 20 (by omega) (by omega)
 rw [← QC hoi.1, QW] at hL
 simp only [List.take_zero, WX] at hL
 exact hL
theorem Jlc : Jc tau Try.prog 118 Joe := Jc.mk' fun xs es k res hl hr => by
 change Jhm xs es k = some res at hr
 unfold Jhm at hr
 split at hr
 · rename_i n z f b e
   obtain ⟨hc, hr⟩ := Jw hr
   simp only [Bool.and_eq_true, decide_eq_true_eq] at hc
   exact J6 Jn Job Jo Jyu Jyv (Joc (Gu 20)) [.ro] 1 0 (JFA 20) hl rfl ((JLJ 20 z f b e n k).trans ((JvI z f b e n hc.1.1 hc.1.2.1 hc.1.2.2 hc.2 k).trans hr))
 · cases hr
def F81 : Fns := Js 118 Joe (F0)
theorem JAQ : Jq tau Try.prog F81 := (Jt).add Jlc Jrz
def JAR : An := (.seq .leaf (.seq .leaf .leaf))
def g81 (f : Nat) (y0 y1 : Bool) (r_b : List PV) (r_e : Int) (k : KR) : OR := bif (!y0 || y1) && true && byB r_b then k (Res.mk (.sc (.int .i64 (Jz 8 (RS.mk r_b r_e)))) [.box false 166 (PV.st 166 [.ro 5 y0 y1 (Jb 8 (RS.mk r_b r_e)).b, .sc (.int .i64 (Jb 8 (RS.mk r_b r_e)).e)])] []) else none
theorem e81 (f : Nat) (y0 y1 : Bool) (r_b : List PV) (r_e : Int) (k : KR) : JK tau F81 Try.f81 (Try.f81.body.get!) JAR [.ro] 0 [.ptr 0 []] [.box false 166 (.st 166 [.ro 5 y0 y1 r_b, .sc (.int .i64 r_e)])] k = g81 f y0 y1 r_b r_e k := by kernel_rfl
theorem JLK (f : Nat) : ∀ q ∈ Jg (Try.f81.body.get!) JAR, q.Ok tau Try.prog 1 := Jx (by kernel_rfl)
theorem JFB : Try.prog.funcs[81]? = some Try.f81 := by kernel_rfl
theorem JFC : Try.f81.body = some (Try.f81.body.get!) := by kernel_rfl
theorem JFD : Enters Try.prog 81 := enters_of JFB (by kernel_rfl) JFC
def JrC : JA
 | [.ptr 0 []], [.box false 166 (.st 166 [.ro 5 y0 y1 r_b, .sc (.int .i64 r_e)])], k => g81 0 y0 y1 r_b r_e k
 | _, _, _ => none
def s81 : Sig := { own := [], run := JrC }
theorem JFE : Jc tau Try.prog 81 s81 := JP Jn JAQ Jo JFB JFC JAR [.ro] 1 [] JrC (JLK 0) fun xs es k res hr => by
 unfold JrC at hr
 split at hr
 · exact ⟨rfl, 0, (e81 0 _ _ _ _  _).trans hr⟩
 · cases hr
def F82 : Fns := Js 118 Joe (F0)
theorem JAS : Jq tau Try.prog F82 := (Jt).add Jlc Jrz
def JAT : An := (.seq .leaf (.seq .leaf .leaf))
def g82 (f : Nat) (y0 y1 : Bool) (r_b : List PV) (r_e : Int) (k : KR) : OR := bif (!y0 || y1) && true && byB r_b then k (Res.mk (.sc (.int .i64 (Jz 1 (RS.mk r_b r_e)))) [.box false 166 (PV.st 166 [.ro 5 y0 y1 (Jb 1 (RS.mk r_b r_e)).b, .sc (.int .i64 (Jb 1 (RS.mk r_b r_e)).e)])] []) else none
theorem e82 (f : Nat) (y0 y1 : Bool) (r_b : List PV) (r_e : Int) (k : KR) : JK tau F82 Try.f82 (Try.f82.body.get!) JAT [.ro] 0 [.ptr 0 []] [.box false 166 (.st 166 [.ro 5 y0 y1 r_b, .sc (.int .i64 r_e)])] k = g82 f y0 y1 r_b r_e k := by kernel_rfl
theorem JLL (f : Nat) : ∀ q ∈ Jg (Try.f82.body.get!) JAT, q.Ok tau Try.prog 1 := Jx (by kernel_rfl)
theorem JFF : Try.prog.funcs[82]? = some Try.f82 := by kernel_rfl
theorem JFG : Try.f82.body = some (Try.f82.body.get!) := by kernel_rfl
theorem JFH : Enters Try.prog 82 := enters_of JFF (by kernel_rfl) JFG
def JrD : JA
 | [.ptr 0 []], [.box false 166 (.st 166 [.ro 5 y0 y1 r_b, .sc (.int .i64 r_e)])], k => g82 0 y0 y1 r_b r_e k
 | _, _, _ => none
def s82 : Sig := { own := [], run := JrD }
theorem JFI : Jc tau Try.prog 82 s82 := JP Jn JAS Jo JFF JFG JAT [.ro] 1 [] JrD (JLL 0) fun xs es k res hr => by
 unfold JrD at hr
 split at hr
 · exact ⟨rfl, 0, (e82 0 _ _ _ _  _).trans hr⟩
 · cases hr
def F83 : Fns := Js 119 Jrv (Js 118 Joe (F0))
theorem JAU : Jq tau Try.prog F83 := ((Jt).add Jlc Jrz).add Jrw Jyt
def JAV : An := (.seq .leaf (.seq .leaf (.seq .leaf .leaf)))
def g83 (f : Nat) (y0 y1 : Bool) (r_b : List PV) (r_e : Int) (k : KR) : OR := bif (!y0 || y1) && true && byB r_b then bif (!y0 || y1) && decide (0 <= Jz 2 (RS.mk r_b r_e)) then bif Jl IntKind.u8 (V8 (Jz 2 (RS.mk r_b r_e)).toNat (Jb 2 (RS.mk r_b r_e))) && true then k (Res.mk (.sc (.string (ByteArray.mk (Array.mk (JY (!okS (Jz 2 (RS.mk r_b r_e)).toNat (RS.mk (Jb 2 (RS.mk r_b r_e)).b (Jb 2 (RS.mk r_b r_e)).e) || y0, V8 (Jz 2 (RS.mk r_b r_e)).toNat (Jb 2 (RS.mk r_b r_e))).snd))))) [.box false 166 (PV.st 166 [.ro 5 y0 y1 (Jb (Jz 2 (RS.mk r_b r_e)).toNat (Jb 2 (RS.mk r_b r_e))).b, .sc (.int .i64 (Jb (Jz 2 (RS.mk r_b r_e)).toNat (Jb 2 (RS.mk r_b r_e))).e)])] []) else none else none else none
theorem e83 (f : Nat) (y0 y1 : Bool) (r_b : List PV) (r_e : Int) (k : KR) : JK tau F83 Try.f83 (Try.f83.body.get!) JAV [.ro] 0 [.ptr 0 []] [.box false 166 (.st 166 [.ro 5 y0 y1 r_b, .sc (.int .i64 r_e)])] k = g83 f y0 y1 r_b r_e k := by kernel_rfl
theorem JLM (f : Nat) : ∀ q ∈ Jg (Try.f83.body.get!) JAV, q.Ok tau Try.prog 1 := Jx (by kernel_rfl)
theorem JFJ : Try.prog.funcs[83]? = some Try.f83 := by kernel_rfl
theorem JFK : Try.f83.body = some (Try.f83.body.get!) := by kernel_rfl
theorem JFL : Enters Try.prog 83 := enters_of JFJ (by kernel_rfl) JFK
def JrE : JA
 | [.ptr 0 []], [.box false 166 (.st 166 [.ro 5 y0 y1 r_b, .sc (.int .i64 r_e)])], k => g83 0 y0 y1 r_b r_e k
 | _, _, _ => none
def s83 : Sig := { own := [], run := JrE }
theorem JLN : Jc tau Try.prog 83 s83 := JP Jn JAU Jo JFJ JFK JAV [.ro] 1 [] JrE (JLM 0) fun xs es k res hr => by
 unfold JrE at hr
 split at hr
 · exact ⟨rfl, 0, (e83 0 _ _ _ _  _).trans hr⟩
 · cases hr
def Jld : JA
 | [.ptr 0 []], [.box false 166 (.st 166 [.ro 5 z f b, .sc (.int .i64 e)])], k =>
  bif (!z || f) && byB b then k ⟨.sc (.string (JU ⟨b, e⟩)), [rdP z f (Qe ⟨b, e⟩)], []⟩ else none
 | _, _, _ => none
def JAW : Sig := { own := [], run := Jld }
theorem Jyw : Jc tau Try.prog 83 JAW := JLN.of fun xs es k res hr => by
 change Jld xs es k = some res at hr
 unfold Jld at hr
 split at hr
 · rename_i z f b e
   obtain ⟨hc, hr⟩ := Jw hr
   simp only [Bool.and_eq_true] at hc
   show g83 0 z f b e k = some res
   have hn := (XW (s := ⟨b, e⟩) hc.2 (n := 2) (by omega)).1
   have ho := (Xx.1 (Ze (s := Qk 2 ⟨b, e⟩) (YQ (s := ⟨b, e⟩) hc.2 2) (WN 2 ⟨b, e⟩).toNat)).1
   unfold g83
   simp only [Zd, XV, Zc]
   rw [Ja (by rw [hc.1, hc.2]; rfl), Ja (by rw [hc.1]; simpa using hn), Ja (by rw [ho]; rfl)]
   rw [Jhg, Jdo] at hr
   exact hr
 · cases hr


def F76 : Fns := F0
theorem JAX : Jq tau Try.prog F76 := Jt
def JAY : An := (.seq .leaf (.seq (.seq .leaf (.cond (.seq .leaf .leaf) .leaf)) (.seq .leaf .leaf)))
def g76 (f : Nat) (s_z s_f : Bool) (s : List PV) (k : KR) : OR := bif s_z then k (Res.mk (.ro 5 true true []) [] []) else bif Je (0 + s.length) 1 && true then k (Res.mk (.ro 5 false false (List.take (0 + s.length) s)) [] []) else none
theorem e76 (f : Nat) (s_z s_f : Bool) (s : List PV) (k : KR) : JK tau F76 Try.f76 (Try.f76.body.get!) JAY [.ro] 0 [.ro 5 s_z s_f s] [] k = g76 f s_z s_f s k := by kernel_rfl
theorem JLO (f : Nat) : ∀ q ∈ Jg (Try.f76.body.get!) JAY, q.Ok tau Try.prog 0 := Jx (by kernel_rfl)
theorem JFM : Try.prog.funcs[76]? = some Try.f76 := by kernel_rfl
theorem JFN : Try.f76.body = some (Try.f76.body.get!) := by kernel_rfl
theorem JLP : Enters Try.prog 76 := enters_of JFM (by kernel_rfl) JFN
def JrF : JA
 | [.ro 5 s_z s_f s], [], k => g76 0 s_z s_f s k
 | _, _, _ => none
def s76 : Sig := { own := [], run := JrF }
theorem JLQ : Jc tau Try.prog 76 s76 := JP Jn JAX Jo JFM JFN JAY [.ro] 0 [] JrF (JLO 0) fun xs es k res hr => by
 unfold JrF at hr
 split at hr
 · exact ⟨rfl, 0, (e76 0 _ _ _  _).trans hr⟩
 · cases hr
def slB (z : Bool) (l : List PV) : Bool := (!z || l.isEmpty) && Nat.ble l.length 1000000000
theorem Xy {z : Bool} {l : List PV} : slB z l = true ↔ (z = true -> l = []) /\ l.length <= 1000000000 := by
 simp only [slB, Bool.and_eq_true, Nat.ble_eq, Bool.or_eq_true, Bool.not_eq_true', List.isEmpty_iff]
 cases z <;> simp
def Jle : JA
 | [.ro 5 z f l], [], k => bif slB z l then k ⟨.ro 5 z z l, [], []⟩ else none
 | _, _, _ => none
def JFO : Sig := { own := [], run := Jle }
theorem JFP : Jc tau Try.prog 76 JFO := JLQ.of fun xs es k res hr => by
 change Jle xs es k = some res at hr
 unfold Jle at hr
 split at hr
 · rename_i z f l
   obtain ⟨hc, hr⟩ := Jw hr
   obtain ⟨h1, h2⟩ := Xy.1 hc
   show g76 0 z f l k = some res
   unfold g76
   cases z with
   | true => obtain rfl := h1 rfl; exact hr
   | false =>
    rw [cond_false, Ja (by simp [Je]; omega)]
    simp only [Nat.zero_add, List.nil_append, List.take_length]
    exact hr
 · cases hr


def F94 : Fns := F0
theorem JAZ : Jq tau Try.prog F94 := Jt
def JA0 : An := (.seq .leaf (.seq (.seq .leaf (.cond .leaf .leaf)) (.seq (.seq .leaf (.cond (.seq .leaf .leaf) .leaf)) (.seq .leaf (.seq .leaf .leaf)))))
abbrev Jlf (y0 : Bool) (y1 : Bool) (r_B : List PV) (r_P : Int) (y2 : Int) (n : Int) := (Res.mk (PV.ro 5 y0 (y0 || y1 && false) (List.drop (IntKind.i64.wrap (IntKind.i64.wrap (r_P + n) - n)).toNat (List.take (IntKind.i64.wrap (r_P + n)).toNat r_B))) [.box false 135 (PV.st 135 [PV.ro 5 y0 y1 r_B, PV.sc (.int .i64 (IntKind.i64.wrap (r_P + n))), PV.sc (.int .i64 y2)])] [])
def g94 (f : Nat) (y0 y1 : Bool) (r_B : List PV) (r_P y2 n : Int) (k : KR) : OR := bif y2 == 0 then bif decide (IntKind.i64.wrap (zi r_B.length - r_P) < n) then k (Res.mk (.ro 5 true true []) [.box false 135 (PV.st 135 [.ro 5 y0 y1 r_B, .sc (.int .i64 r_P), .sc (.int .i64 8)])] []) else bif y2 != 0 then k (Res.mk (.ro 5 true true []) [.box false 135 (PV.st 135 [.ro 5 y0 y1 r_B, .sc (.int .i64 r_P), .sc (.int .i64 y2)])] []) else bif decide (0 <= IntKind.i64.wrap (IntKind.i64.wrap (r_P + n) - n)) && decide (0 <= IntKind.i64.wrap (r_P + n)) && decide ((IntKind.i64.wrap (IntKind.i64.wrap (r_P + n) - n)).toNat <= (IntKind.i64.wrap (r_P + n)).toNat) && decide ((IntKind.i64.wrap (r_P + n)).toNat <= r_B.length) && true then k (Jlf y0 y1 r_B r_P y2 n) else none else bif y2 != 0 then k (Res.mk (.ro 5 true true []) [.box false 135 (PV.st 135 [.ro 5 y0 y1 r_B, .sc (.int .i64 r_P), .sc (.int .i64 y2)])] []) else bif decide (0 <= IntKind.i64.wrap (IntKind.i64.wrap (r_P + n) - n)) && decide (0 <= IntKind.i64.wrap (r_P + n)) && decide ((IntKind.i64.wrap (IntKind.i64.wrap (r_P + n) - n)).toNat <= (IntKind.i64.wrap (r_P + n)).toNat) && decide ((IntKind.i64.wrap (r_P + n)).toNat <= r_B.length) && true then k (Jlf y0 y1 r_B r_P y2 n) else none
theorem e94 (f : Nat) (y0 y1 : Bool) (r_B : List PV) (r_P y2 n : Int) (k : KR) : JK tau F94 Try.f94 (Try.f94.body.get!) JA0 [.ro] 0 [.ptr 0 [], .sc (.int .i64 n)] [.box false 135 (.st 135 [.ro 5 y0 y1 r_B, .sc (.int .i64 r_P), .sc (.int .i64 y2)])] k = g94 f y0 y1 r_B r_P y2 n k := by kernel_rfl
theorem JLR (f : Nat) : ∀ q ∈ Jg (Try.f94.body.get!) JA0, q.Ok tau Try.prog 1 := Jx (by kernel_rfl)
theorem JFQ : Try.prog.funcs[94]? = some Try.f94 := by kernel_rfl
theorem JFR : Try.f94.body = some (Try.f94.body.get!) := by kernel_rfl
theorem JA1 : Enters Try.prog 94 := enters_of JFQ (by kernel_rfl) JFR
def JrG : JA
 | [.ptr 0 [], .sc (.int .i64 n)], [.box false 135 (.st 135 [.ro 5 y0 y1 r_B, .sc (.int .i64 r_P), .sc (.int .i64 y2)])], k => g94 0 y0 y1 r_B r_P y2 n k
 | _, _, _ => none
def s94 : Sig := { own := [], run := JrG }
theorem JLS : Jc tau Try.prog 94 s94 := JP Jn JAZ Jo JFQ JFR JA0 [.ro] 1 [] JrG (JLR 0) fun xs es k res hr => by
 unfold JrG at hr
 split at hr
 · exact ⟨rfl, 0, (e94 0 _ _ _ _ _ _  _).trans hr⟩
 · cases hr
abbrev rfP (z f : Bool) (t : RT) : Ent := .box false 135 (.st 135 [.ro 5 z f t.B, .sc (.int .i64 t.P), .sc (.int .i64 t.e)])
def Jlg : JA
 | [.ptr 0 [], .sc (.int .i64 n)], [.box false 135 (.st 135 [.ro 5 z f B, .sc (.int .i64 P), .sc (.int .i64 e)])], k =>
  bif okT ⟨B, P, e⟩ && (decide (0 <= n) && decide (n <= 1000000000)) then k ⟨.ro 5 (!okS n.toNat (RT.view ⟨B, P, e⟩) || z) (!okS n.toNat (RT.view ⟨B, P, e⟩) || z) (V8 n.toNat (RT.view ⟨B, P, e⟩)), [rfP z f (Jh n.toNat ⟨B, P, e⟩)], []⟩ else none
 | _, _, _ => none
def JvJ : Sig := { own := [], run := Jlg }
theorem JA2 (z f : Bool) (B : List PV) (P e n : Int) (hk : okT ⟨B, P, e⟩ = true) (hn : 0 <= n) (hn2 : n <= 1000000000) (k : KR) :
   g94 0 z f B P e n k = k ⟨.ro 5 (!okS n.toNat (RT.view ⟨B, P, e⟩) || z) (!okS n.toNat (RT.view ⟨B, P, e⟩) || z) (V8 n.toNat (RT.view ⟨B, P, e⟩)), [rfP z f (Jh n.toNat ⟨B, P, e⟩)], []⟩ := by
 rw [Jk8, Zc, Xn]
 simp only [okT, Bool.and_eq_true, decide_eq_true_eq, Nat.ble_eq] at hk
 obtain ⟨k1, k2, k3, k4⟩ := hk
 have hz2 : (z || f && false) = z := by cases z <;> cases f <;> rfl
 obtain ⟨p, rfl⟩ := Int.eq_ofNat_of_zero_le k1
 obtain ⟨m, rfl⟩ := Int.eq_ofNat_of_zero_le hn
 have w1 : IntKind.i64.wrap (zi B.length - (p : Int)) = ((B.length - p : Nat) : Int) := by simp only [zi]; rw [wrap_i64 (by omega) (by omega)]; omega
 have w2 : IntKind.i64.wrap ((p : Int) + (m : Int)) = ((p + m : Nat) : Int) := by rw [wrap_i64 (by omega) (by omega)]; omega
 have w3 : IntKind.i64.wrap (((p + m : Nat) : Int) - (m : Int)) = (p : Int) := by rw [wrap_i64 (by omega) (by omega)]; omega
 have hdl : (B.drop p).length = B.length - p := List.length_drop
 unfold g94 Jlf
 simp only [w1, w2, w3, Int.toNat_natCast, hz2]
 by_cases c2 : e = 0
 · subst c2
   simp only [beq_self_eq_true, cond_true]
   have h00 : ((0 : Int) != 0) = false := by decide
   by_cases c1 : ((B.length - p : Nat) : Int) < (m : Int)
   · rw [Ja (by simpa using c1)]
     have hb : Nat.ble m (B.length - p) = false := by
      cases h : Nat.ble m (B.length - p) with
      | false => rfl
      | true => rw [Nat.ble_eq] at h; omega
     simp [Xw, J8, QY, RT.view, hb]
   · have hb : Nat.ble m (B.length - p) = true := by rw [Nat.ble_eq]; omega
     simp only [h00, cond_false]
     rw [Jd (by simpa using c1), Ja (by simp; omega)]
     have hd : List.drop p (List.take (p + m) B) = List.take m (List.drop p B) := by rw [List.drop_take]; congr 1; omega
     rw [hd]
     simp [Xw, J8, QY, RT.view, hb]
 · have hb : (e == 0) = false := by simpa using c2
   have hb2 : (e != 0) = true := by simpa using c2
   simp only [hb, hb2, cond_true, cond_false]
   simp [Xw, J8, QY, RT.view, hb]
theorem JrH : Jc tau Try.prog 94 JvJ := JLS.of fun xs es k res hr => by
 change Jlg xs es k = some res at hr
 unfold Jlg at hr
 split at hr
 · obtain ⟨hc, hr⟩ := Jw hr
   simp only [Bool.and_eq_true, decide_eq_true_eq] at hc
   exact (JA2 _ _ _ _ _ _ hc.1 hc.2.1 hc.2.2 _).trans hr
 · cases hr
def N44 : Nat := 25
def F44 : Fns := Js 94 JvJ (F0)
theorem JrI : Jq tau Try.prog F44 := (Jt).add JrH JA1
def Jof : Code := Qj (Try.f44.body.get!) [1, 1, 1, 0, 1, 0, 0]
def Jeh : Nm := [(3, .any), (4, .any), (5, .any)]
def Jlh : Nm := [(3, .any)]
def JrJ : An := (.seq (.seq .leaf (.cond .leaf .leaf)) (.seq (.block none .leaf) .leaf))
def JvK (r0 : Qz) : An := (.seq .leaf (.seq .leaf (.seq .leaf (.seq (.seq .leaf (.block none (.sum Jeh N44 r0))) (.seq .leaf .leaf)))))
abbrev JrK := Int -> Bool -> Bool -> List PV -> Int -> Bool -> Bool -> List PV -> Int -> Int -> OR
def JaF (f : Nat) (rc : JrK) (k0 : Int -> Bool -> Bool -> List PV -> Int -> Int -> OR) (v0 : Int) (v1 v2 : Bool) (v3 : List PV) (v4 : Int) (v5 v6 : Bool) (v7 : List PV) (v8 v9 : Int) : OR := bif decide (v4 >= 0) then bif decide (0 <= v4) && decide (v4 < zi v3.length) && PV.isInt IntKind.u8 (v3.getD v4.toNat PV.top) && true then rc (JM BinOp.or IntKind.u64 (Xt IntKind.u64 v0 8) (IntKind.u64.wrap (v3.getD v4.toNat PV.top).int)) v1 v2 v3 (IntKind.i64.wrap (v4 - 1)) v5 v6 v7 v8 v9 else none else k0 v0 v5 v6 v7 v8 v9
def Gv (f : Nat) (k0 : Int -> Bool -> Bool -> List PV -> Int -> Int -> OR) : Nat -> JrK
 | 0 => fun _ _ _ _ _ _ _ _ _ _ => none
 | n + 1 => JaF f (Gv f k0 n) k0
def JaG (k : Kont) := fun x0 x1 x2 x3 x4 x5 => k (Ex.exit 0) (Jj Jlh N44 [.sc (.int .u64 x0)] [(0, .box false 135 (PV.st 135 [.ro 5 x1 x2 x3, .sc (.int .i64 x4), .sc (.int .i64 x5)]))])
def Jli (f : Nat) (k : Kont) (n : Nat) (v0 : Int) (v1 v2 : Bool) (v3 : List PV) (v4 : Int) (v5 v6 : Bool) (v7 : List PV) (v8 v9 : Int) : OR := Jy tau 1 Jeh (fun s k => ev tau F44 1 0 Jof (JrJ ) s k) n (Jj Jeh N44 [.sc (.int .u64 v0), .ro 5 v1 v2 v3, .sc (.int .i64 v4)] [(0, .box false 135 (PV.st 135 [.ro 5 v5 v6 v7, .sc (.int .i64 v8), .sc (.int .i64 v9)]))]) (JI tau 1 Jlh k)
theorem JvL (f : Nat) (k : Kont) (n : Nat) : Jli f k (n + 1) = JaF f (Jli f k n) (JaG k) := by kernel_rfl
theorem Jog (f : Nat) (k : Kont) : ∀ n, Jli f k n = Gv f (JaG k) n
 | 0 => rfl
 | n + 1 => (JvL f k n).trans (congrArg (fun r => JaF f r (JaG k)) (Jog f k n))
def Jei (f : Nat) : List PV -> List (Nat × Ent) -> Kont -> OR
 | [.sc (.int .u64 v0), .ro 5 v1 v2 v3,
 PV.sc
  (Value.int IntKind.i64
   v4)], [(0,
  Ent.box false 135
   (PV.st 135
    [.ro 5 v5 v6 v7, .sc (.int .i64 v8),
     PV.sc
      (Value.int IntKind.i64
       v9)]))], k => Gv f (JaG k) f v0 v1 v2 v3 v4 v5 v6 v7 v8 v9
 | _, _, _ => none
theorem JA3 (f : Nat) : Jg Jof JrJ = [] := by kernel_rfl
theorem JA4 (f : Nat) : (Item.l Jof Jeh N44 (Jei f)).Ok tau Try.prog 1 := Ju Jn JrI Jo (x := JrJ) (nm2 := Jlh) (Jk _ _ (by rw [JA3 f]; intro q hq; cases hq)) fun vs hp k res hr => by
 unfold Jei at hr
 split at hr
 · rw [← Jog f] at hr; exact ⟨f, 0, hr⟩
 · cases hr
abbrev Jej (r_B : List PV) (r_P : Int) (y2 : Int) := (RS.mk (List.drop (RT.mk r_B r_P y2).P.toNat (RT.mk r_B r_P y2).B) (RT.mk r_B r_P y2).e)
def g44 (f : Nat) (y0 y1 : Bool) (r_B : List PV) (r_P y2 : Int) (k : KR) : OR := bif okT (RT.mk r_B r_P y2) && true then Gv f (fun x0_0 x1_0 x2_0 JR x4_0 x5_0 => k (Res.mk (.sc (.int .i64 (IntKind.i64.wrap x0_0))) [.box false 135 (PV.st 135 [.ro 5 x1_0 x2_0 JR, .sc (.int .i64 x4_0), .sc (.int .i64 x5_0)])] [])) f (0) (!okS 8 (Jej r_B r_P y2) || y0) (!okS 8 (Jej r_B r_P y2) || y0) (V8 8 (Jej r_B r_P y2)) (IntKind.i64.wrap (zi (V8 8 (Jej r_B r_P y2)).length - 1)) y0 y1 ((Jh 8 (RT.mk r_B r_P y2)).B) ((Jh 8 (RT.mk r_B r_P y2)).P) ((Jh 8 (RT.mk r_B r_P y2)).e) else none
theorem e44 (f : Nat) (y0 y1 : Bool) (r_B : List PV) (r_P y2 : Int) (k : KR) : JK tau F44 Try.f44 (Try.f44.body.get!) (JvK (Jei f)) [.ro] 0 [.ptr 0 []] [.box false 135 (.st 135 [.ro 5 y0 y1 r_B, .sc (.int .i64 r_P), .sc (.int .i64 y2)])] k = g44 f y0 y1 r_B r_P y2 k := by kernel_rfl
theorem JLT (f : Nat) : Jg (Try.f44.body.get!) (JvK (Jei f)) = [.l Jof Jeh N44 (Jei f)] := by kernel_rfl
theorem JLU (f : Nat) : ∀ q ∈ Jg (Try.f44.body.get!) (JvK (Jei f)), q.Ok tau Try.prog 1 := by rw [JLT f]; exact JL (JA4 f) (fun _ h => nomatch h)
theorem JFS : Try.prog.funcs[44]? = some Try.f44 := by kernel_rfl
theorem JFT : Try.f44.body = some (Try.f44.body.get!) := by kernel_rfl
theorem JA5 : Enters Try.prog 44 := enters_of JFS (by kernel_rfl) JFT
def F46 : Fns := Js 94 JvJ (F0)
theorem JA6 : Jq tau Try.prog F46 := (Jt).add JrH JA1
def JA7 : An := (.seq .leaf (.seq .leaf (.seq (.seq .leaf (.cond (.seq .leaf .leaf) .leaf)) (.seq .leaf .leaf))))
abbrev Jek (r_B : List PV) (r_P : Int) (y2 : Int) := (V8 1 (RS.mk (List.drop (RT.mk r_B r_P y2).P.toNat (RT.mk r_B r_P y2).B) (RT.mk r_B r_P y2).e))
def g46 (f : Nat) (y0 y1 : Bool) (r_B : List PV) (r_P y2 : Int) (k : KR) : OR := bif okT (RT.mk r_B r_P y2) && true then bif zi (Jek r_B r_P y2).length == 0 then k (Res.mk (.sc (.int .i64 0)) [.box false 135 (PV.st 135 [.ro 5 y0 y1 (Jh 1 (RT.mk r_B r_P y2)).B, .sc (.int .i64 (Jh 1 (RT.mk r_B r_P y2)).P), .sc (.int .i64 (Jh 1 (RT.mk r_B r_P y2)).e)])] []) else bif decide (0 < zi (Jek r_B r_P y2).length) && PV.isInt IntKind.u8 ((Jek r_B r_P y2).getD 0 PV.top) && true then k (Res.mk (.sc (.int .i64 (IntKind.i64.wrap ((Jek r_B r_P y2).getD 0 PV.top).int))) [.box false 135 (PV.st 135 [.ro 5 y0 y1 (Jh 1 (RT.mk r_B r_P y2)).B, .sc (.int .i64 (Jh 1 (RT.mk r_B r_P y2)).P), .sc (.int .i64 (Jh 1 (RT.mk r_B r_P y2)).e)])] []) else none else none
theorem e46 (f : Nat) (y0 y1 : Bool) (r_B : List PV) (r_P y2 : Int) (k : KR) : JK tau F46 Try.f46 (Try.f46.body.get!) JA7 [.ro] 0 [.ptr 0 []] [.box false 135 (.st 135 [.ro 5 y0 y1 r_B, .sc (.int .i64 r_P), .sc (.int .i64 y2)])] k = g46 f y0 y1 r_B r_P y2 k := by kernel_rfl
theorem JLV (f : Nat) : ∀ q ∈ Jg (Try.f46.body.get!) JA7, q.Ok tau Try.prog 1 := Jx (by kernel_rfl)
theorem JFU : Try.prog.funcs[46]? = some Try.f46 := by kernel_rfl
theorem JFV : Try.f46.body = some (Try.f46.body.get!) := by kernel_rfl
theorem JA8 : Enters Try.prog 46 := enters_of JFU (by kernel_rfl) JFV
def JrL : JA
 | [.ptr 0 []], [.box false 135 (.st 135 [.ro 5 y0 y1 r_B, .sc (.int .i64 r_P), .sc (.int .i64 y2)])], k => g46 0 y0 y1 r_B r_P y2 k
 | _, _, _ => none
def s46 : Sig := { own := [], run := JrL }
theorem JLW : Jc tau Try.prog 46 s46 := JP Jn JA6 Jo JFU JFV JA7 [.ro] 1 [] JrL (JLV 0) fun xs es k res hr => by
 unfold JrL at hr
 split at hr
 · exact ⟨rfl, 0, (e46 0 _ _ _ _ _  _).trans hr⟩
 · cases hr
def F47 : Fns := Js 94 JvJ (F0)
theorem JA9 : Jq tau Try.prog F47 := (Jt).add JrH JA1
def JBa : An := (.seq .leaf (.seq .leaf (.seq (.seq .leaf (.cond (.seq .leaf .leaf) .leaf)) (.seq .leaf .leaf))))
abbrev Z1 (r_B : List PV) (r_P : Int) (y2 : Int) := (V8 2 (RS.mk (List.drop (RT.mk r_B r_P y2).P.toNat (RT.mk r_B r_P y2).B) (RT.mk r_B r_P y2).e))
abbrev Gw (r_B : List PV) (r_P : Int) (y2 : Int) := (IntKind.i64.wrap ((Z1 r_B r_P y2).getD 0 PV.top).int + IntKind.i64.wrap (256 * IntKind.i64.wrap ((Z1 r_B r_P y2).getD 1 PV.top).int))
abbrev Z2 (r_B : List PV) (r_P : Int) (y2 : Int) := (RT.mk (Jh 2 (RT.mk r_B r_P y2)).B (Jh 2 (RT.mk r_B r_P y2)).P (Jh 2 (RT.mk r_B r_P y2)).e)
abbrev Jhn (r_B : List PV) (r_P : Int) (y2 : Int) := (Jh (IntKind.i64.wrap (Gw r_B r_P y2)).toNat (Jh 2 (RT.mk r_B r_P y2)))
def g47 (f : Nat) (y0 y1 : Bool) (r_B : List PV) (r_P y2 : Int) (k : KR) : OR := bif okT (RT.mk r_B r_P y2) && true then bif zi (Z1 r_B r_P y2).length == 0 then k (Res.mk (.sc (.string (ByteArray.mk (Array.mk [])))) [.box false 135 (PV.st 135 [.ro 5 y0 y1 (Jh 2 (RT.mk r_B r_P y2)).B, .sc (.int .i64 (Jh 2 (RT.mk r_B r_P y2)).P), .sc (.int .i64 (Jh 2 (RT.mk r_B r_P y2)).e)])] []) else bif decide (0 < zi (Z1 r_B r_P y2).length) && PV.isInt IntKind.u8 ((Z1 r_B r_P y2).getD 0 PV.top) && true then bif decide (1 < zi (Z1 r_B r_P y2).length) && PV.isInt IntKind.u8 ((Z1 r_B r_P y2).getD 1 PV.top) && true then bif okT (Jh 2 (RT.mk r_B r_P y2)) && (decide (0 <= IntKind.i64.wrap (Gw r_B r_P y2)) && decide (IntKind.i64.wrap (Gw r_B r_P y2) <= 1000000000)) then bif Jl IntKind.u8 (V8 (IntKind.i64.wrap (Gw r_B r_P y2)).toNat (RS.mk (List.drop (Z2 r_B r_P y2).P.toNat (Z2 r_B r_P y2).B) (Z2 r_B r_P y2).e)) && true then k (Res.mk (.sc (.string (ByteArray.mk (Array.mk (JY (!okS (IntKind.i64.wrap (Gw r_B r_P y2)).toNat (Z2 r_B r_P y2).view || y0, V8 (IntKind.i64.wrap (Gw r_B r_P y2)).toNat (RS.mk (List.drop (Z2 r_B r_P y2).P.toNat (Z2 r_B r_P y2).B) (Z2 r_B r_P y2).e)).snd))))) [.box false 135 (PV.st 135 [.ro 5 y0 y1 (Jhn r_B r_P y2).B, .sc (.int .i64 (Jhn r_B r_P y2).P), .sc (.int .i64 (Jhn r_B r_P y2).e)])] []) else none else none else none else none else none
theorem e47 (f : Nat) (y0 y1 : Bool) (r_B : List PV) (r_P y2 : Int) (k : KR) : JK tau F47 Try.f47 (Try.f47.body.get!) JBa [.ro] 0 [.ptr 0 []] [.box false 135 (.st 135 [.ro 5 y0 y1 r_B, .sc (.int .i64 r_P), .sc (.int .i64 y2)])] k = g47 f y0 y1 r_B r_P y2 k := by kernel_rfl
theorem JLX (f : Nat) : ∀ q ∈ Jg (Try.f47.body.get!) JBa, q.Ok tau Try.prog 1 := Jx (by kernel_rfl)
theorem JFW : Try.prog.funcs[47]? = some Try.f47 := by kernel_rfl
theorem JFX : Try.f47.body = some (Try.f47.body.get!) := by kernel_rfl
theorem JFY : Enters Try.prog 47 := enters_of JFW (by kernel_rfl) JFX
def JrM : JA
 | [.ptr 0 []], [.box false 135 (.st 135 [.ro 5 y0 y1 r_B, .sc (.int .i64 r_P), .sc (.int .i64 y2)])], k => g47 0 y0 y1 r_B r_P y2 k
 | _, _, _ => none
def s47 : Sig := { own := [], run := JrM }
theorem JLY : Jc tau Try.prog 47 s47 := JP Jn JA9 Jo JFW JFX JBa [.ro] 1 [] JrM (JLX 0) fun xs es k res hr => by
 unfold JrM at hr
 split at hr
 · exact ⟨rfl, 0, (e47 0 _ _ _ _ _  _).trans hr⟩
 · cases hr
theorem JfN (k : IntKind) (x y : Int) : JM .or k x y = JM .or k y x := by simp only [JM]; rw [BitVec.or_comm]
theorem Jyx (L : List Int) (hL : ∀ x ∈ L, 0 <= x /\ x < 256) (h8 : L.length <= 8) (f : Nat) (k0 : Int -> Bool -> Bool -> List PV -> Int -> Int -> OR) (a b c d : Bool) (R : List PV) (P e : Int) : ∀ (i n : Nat), i <= L.length -> i < n ->
  Gv f k0 n (WX (L.drop i)) a b (pu .u8 L) ((i : Int) - 1) c d R P e = k0 (WX L) c d R P e
 | 0, n + 1, h, hn => by
   simp only [Gv, JaF, List.drop_zero]
   exact Jd (by decide)
 | i + 1, n + 1, h, hn => by
   have g0 : ((i + 1 : Nat) : Int) - 1 = (i : Int) := by omega
   have g1 := tI i
   have h1 : IntKind.i64.wrap ((i : Int) - 1) = (i : Int) - 1 := wrap_i64 (by omega) (by omega)
   have hi : i < L.length := by omega
   have hx := hL (L.getD i 0) (by rw [List.getD_eq_getElem?_getD, List.getElem?_eq_getElem hi]; exact List.getElem_mem hi)
   rw [g0]
   simp only [Gv, JaF, g1, h1]
   rw [J7 hi, QI hi]
   refine (Ja (by simp)).trans ((Ja (by simp [zi]; omega)).trans ?_)
   have hd : L.drop i = L.getD i 0 :: L.drop (i + 1) := by
    rw [List.drop_eq_getElem_cons hi, List.getD_eq_getElem?_getD, List.getElem?_eq_getElem hi]; rfl
   have hb := Yj (L.drop (i + 1)) fun x hx => hL x (List.mem_of_mem_drop hx)
   have hp : (256 : Int) ^ (L.drop (i + 1)).length <= 2 ^ 56 := by
    rw [Jlb]
    have h : (2 ^ (8 * (L.drop (i + 1)).length) : Nat) <= 2 ^ 56 := Nat.pow_le_pow_right (by omega) (by rw [List.length_drop]; omega)
    have e2 : ((2 : Int)) ^ (8 * (L.drop (i + 1)).length) = ((2 ^ (8 * (L.drop (i + 1)).length) : Nat) : Int) := by rw [Int.natCast_pow]; rfl
    have e3 : ((2 : Int)) ^ 56 = ((2 ^ 56 : Nat) : Int) := by rw [Int.natCast_pow]; rfl
    rw [e2, e3]; exact Int.ofNat_le.2 h
   have h56 : (2 : Int) ^ 56 = 72057594037927936 := by decide
   rw [h56] at hp
   have hsh : Xt .u64 (WX (L.drop (i + 1))) 8 = WX (L.drop (i + 1)) * 2 ^ 8 := by
    rw [Xt, QX]
    have : min (8 : Int).toNat IntKind.u64.bits = 8 := by decide
    rw [this]
    have h8 : (2 : Int) ^ 8 = 256 := by decide
    rw [h8]; omega
   have hw : IntKind.u64.wrap (L.getD i 0) = L.getD i 0 := by rw [QX]; omega
   have h8 : (2 : Int) ^ 8 = 256 := by decide
   have h64 : (2 : Int) ^ 64 = 18446744073709551616 := by decide
   rw [hsh, hw, JfN, Jjy (by omega) hx.1 (by rw [h8]; exact hx.2) hb.1 (by rw [h8, h64]; omega)]
   have hn1 : L.getD i 0 + WX (L.drop (i + 1)) * 2 ^ 8 = WX (L.drop i) := by rw [hd, WX, h8]; omega
   rw [hn1]
   exact Jyx L hL (by assumption) f k0 a b c d R P e i n (by omega) (by omega)
def Jlj : JA
 | [.ptr 0 []], [.box false 135 (.st 135 [.ro 5 z f B, .sc (.int .i64 P), .sc (.int .i64 e)])], k =>
  bif okT ⟨B, P, e⟩ then k ⟨.sc (.int .i64 (Qm 8 ⟨B, P, e⟩)), [rfP z f (Jh 8 ⟨B, P, e⟩)], []⟩ else none
 | _, _, _ => none
def JvM : Sig := { own := [], run := Jlj }
theorem JaH {t : RT} (h : okT t = true) : byB t.view.b = true := by
 simp only [okT, Bool.and_eq_true] at h
 exact Jju h.2.2.1 _
theorem JvN (B : List PV) (P e : Int) : RS.mk (List.drop (RT.mk B P e).P.toNat (RT.mk B P e).B) (RT.mk B P e).e = RT.view ⟨B, P, e⟩ := rfl
theorem JrN : Jc tau Try.prog 44 JvM := Jc.mk' fun xs es k res hl hr => by
 change Jlj xs es k = some res at hr
 unfold Jlj at hr
 split at hr
 · rename_i z f B P e
   obtain ⟨hc, hr⟩ := Jw hr
   have hg : g44 20 z f B P e k = some res := by
    unfold g44 Jej
    have hb := JaH hc
    have ho := Xx.1 (Ze (s := RT.view ⟨B, P, e⟩) hb 8)
    have hl8 : (JD (J8 8 (RT.view ⟨B, P, e⟩))).length <= 8 := by rw [QW]; exact WY _ _
    have hw : IntKind.i64.wrap (zi (J8 8 (RT.view ⟨B, P, e⟩)).length - 1) = ((J8 8 (RT.view ⟨B, P, e⟩)).length : Int) - 1 := by
     have := WY 8 (RT.view ⟨B, P, e⟩)
     simp only [zi]; rw [wrap_i64 (by omega) (by omega)]
    rw [Ja (by rw [hc]; rfl), JvN, Zc, hw]
    have hL := Jyx (JD (J8 8 (RT.view ⟨B, P, e⟩))) ho.2 hl8 20 (fun x0_0 x1_0 x2_0 JR x4_0 x5_0 => k (Res.mk (.sc (.int .i64 (IntKind.i64.wrap x0_0))) [.box false 135 (.st 135 [.ro 5 x1_0 x2_0 JR, .sc (.int .i64 x4_0), .sc (.int .i64 x5_0)])] [])) (!okS 8 (RT.view ⟨B, P, e⟩) || z) (!okS 8 (RT.view ⟨B, P, e⟩) || z) z f (Jh 8 ⟨B, P, e⟩).B (Jh 8 ⟨B, P, e⟩).P (Jh 8 ⟨B, P, e⟩).e (JD (J8 8 (RT.view ⟨B, P, e⟩))).length 20 (by omega) (by omega)
    rw [← QC ho.1, List.drop_length, QW] at hL
    simp only [WX] at hL
    refine hL.trans ?_
    rw [Jdp] at hr
    exact hr
   exact J6 Jn JrI Jo JFS JFT (JvK (Jei 20)) [.ro] 1 0 (JLU 20) hl rfl ((e44 20 z f B P e k).trans hg)
 · cases hr
def Jlk : JA
 | [.ptr 0 []], [.box false 135 (.st 135 [.ro 5 z f B, .sc (.int .i64 P), .sc (.int .i64 e)])], k =>
  bif okT ⟨B, P, e⟩ then k ⟨.sc (.int .i64 (Qm 1 ⟨B, P, e⟩)), [rfP z f (Jh 1 ⟨B, P, e⟩)], []⟩ else none
 | _, _, _ => none
def JvO : Sig := { own := [], run := Jlk }
theorem JrO : Jc tau Try.prog 46 JvO := JLW.of fun xs es k res hr => by
 change Jlk xs es k = some res at hr
 unfold Jlk at hr
 split at hr
 · rename_i z f B P e
   obtain ⟨hc, hr⟩ := Jw hr
   show g46 0 z f B P e k = some res
   unfold g46 Jek
   have hb := JaH hc
   have hv : RT.view ⟨B, P, e⟩ = ⟨List.drop P.toNat B, e⟩ := rfl
   rw [hv] at hb
   have ho := Xx.1 (Ze hb 1)
   have hl := WY 1 ⟨List.drop P.toNat B, e⟩
   rw [Jdp, WN, hv] at hr
   simp only [Zc]
   rw [Ja (by rw [hc]; rfl)]
   generalize J8 1 ⟨List.drop P.toNat B, e⟩ = O at *
   match O, hl with
   | [], _ => exact hr
   | [p], _ =>
    have h1 : p.isInt .u8 = true := by simpa [Jl] using ho.1
    have h2 := ho.2 p.int (by simp [JD])
    refine (Jd rfl).trans ((Ja (by simp [zi, h1])).trans ?_)
    have : WX (JD [p]) = p.int := by simp [JD, WX]
    rw [this] at hr
    exact hr
 · cases hr
def Jll : JA
 | [.ptr 0 []], [.box false 135 (.st 135 [.ro 5 z f B, .sc (.int .i64 P), .sc (.int .i64 e)])], k =>
  bif okT ⟨B, P, e⟩ then k ⟨.sc (.string (XX ⟨B, P, e⟩)), [rfP z f (QZ ⟨B, P, e⟩)], []⟩ else none
 | _, _, _ => none
def JBb : Sig := { own := [], run := Jll }
theorem Jyy : Jc tau Try.prog 47 JBb := JLY.of fun xs es k res hr => by
 change Jll xs es k = some res at hr
 unfold Jll at hr
 split at hr
 · rename_i z f B P e
   obtain ⟨hc, hr⟩ := Jw hr
   show g47 0 z f B P e k = some res
   unfold g47 Jhn Z2 Gw Z1
   have hb := JaH hc
   have hv : RT.view ⟨B, P, e⟩ = ⟨List.drop P.toNat B, e⟩ := rfl
   rw [hv] at hb
   rw [Jjv, Jhh] at hr
   have hk2 : okT (Jh 2 ⟨B, P, e⟩) = true := QF hc 2
   have hv2 : ∀ t : RT, RS.mk (List.drop t.P.toNat t.B) t.e = t.view := fun t => rfl
   have hst : (QY 2 ⟨B, P, e⟩).view = Qk 2 ⟨List.drop P.toNat B, e⟩ := YR 2 ⟨B, P, e⟩
   rw [Ja (by rw [hc]; rfl)]
   simp only [Zc, Jk8]
   cases hk : Xw 2 ⟨List.drop P.toNat B, e⟩ with
   | false =>
    have hO : J8 2 ⟨List.drop P.toNat B, e⟩ = [] := by unfold J8; rw [hk]; rfl
    have hN : WN 2 ⟨List.drop P.toNat B, e⟩ = 0 := by unfold WN; rw [hO]; rfl
    have he : (Qk 2 ⟨List.drop P.toNat B, e⟩).e ≠ 0 := by
      unfold Qk; rw [hk]
      by_cases h0 : e = 0
      · subst h0; show (8 : Int) ≠ 0; decide
      · have : (e == 0) = false := by simpa using h0
        simp only [cond_false, this]; exact h0
    have hnk : Xw 0 (Qk 2 ⟨List.drop P.toNat B, e⟩) = false := by
      unfold Xw
      have : ((Qk 2 ⟨List.drop P.toNat B, e⟩).e == 0) = false := by simpa using he
      rw [this]; rfl
    have h1 : JcW (RT.view ⟨B, P, e⟩) = ByteArray.mk (Array.mk []) := by
      rw [hv]; unfold JcW; rw [hN]
      have : J8 (0 : Int).toNat (Qk 2 ⟨List.drop P.toNat B, e⟩) = [] := by
        show J8 0 _ = []
        unfold J8; rw [hnk]; rfl
      rw [this]; rfl
    have h2 : JaC ⟨B, P, e⟩ = QY 2 ⟨B, P, e⟩ := by
      unfold JaC; rw [hv, hN]
      rw [← hst] at he
      exact Jql he _
    rw [h1, h2] at hr
    rw [hO]
    refine (Ja rfl).trans ?_
    rw [Xn]
    exact hr
   | true =>
    have hO : J8 2 ⟨List.drop P.toNat B, e⟩ = List.take 2 (List.drop P.toNat B) := by unfold J8; rw [hk]; rfl
    have hlen : 2 <= (List.drop P.toNat B).length := by
      simp only [Xw, Bool.and_eq_true, Nat.ble_eq] at hk; exact hk.2
    obtain ⟨p, q, hpq⟩ : ∃ p q, J8 2 ⟨List.drop P.toNat B, e⟩ = [p, q] := by
      rw [hO]
      match h : List.drop P.toNat B, hlen with
      | p :: q :: r, _ => exact ⟨p, q, rfl⟩
    have ho := Xx.1 (Ze hb 2)
    rw [hpq] at ho
    have hp1 : p.isInt .u8 = true /\ q.isInt .u8 = true := by simpa [Jl] using ho.1
    have hp2 := ho.2 p.int (by simp [JD])
    have hq2 := ho.2 q.int (by simp [JD])
    have hw : IntKind.i64.wrap (IntKind.i64.wrap p.int + IntKind.i64.wrap (256 * IntKind.i64.wrap q.int)) = p.int + 256 * q.int := by
      rw [wrap_i64 (x := p.int) (by omega) (by omega), wrap_i64 (x := q.int) (by omega) (by omega), wrap_i64 (x := 256 * q.int) (by omega) (by omega), wrap_i64 (by omega) (by omega)]
    have hN : WN 2 ⟨List.drop P.toNat B, e⟩ = p.int + 256 * q.int := by
      unfold WN; rw [hpq]
      show IntKind.i64.wrap (WX [p.int, q.int]) = _
      simp only [WX]
      rw [wrap_i64 (by omega) (by omega)]; omega
    have g0 : ([p, q] : List PV).getD 0 PV.top = p := rfl
    have g1 : ([p, q] : List PV).getD 1 PV.top = q := rfl
    simp only [hpq, g0, g1, hw]
    refine (Jd rfl).trans ((Ja (by simp [zi, hp1.1])).trans ((Ja (by simp [zi, hp1.2])).trans ((Ja ?_).trans ?_)))
    · rw [hk2]; simp; omega
    have h1 : JcW (RT.view ⟨B, P, e⟩) = ⟨(JY (J8 (p.int + 256 * q.int).toNat (Jh 2 ⟨B, P, e⟩).view)).toArray⟩ := by
      rw [hv]; unfold JcW; rw [hN, Xn, hst]
    have h2 : JaC ⟨B, P, e⟩ = Jh (p.int + 256 * q.int).toNat (Jh 2 ⟨B, P, e⟩) := by
      unfold JaC; rw [hv, hN, Xn, Xn]
    have hbo : Jl .u8 (J8 (p.int + 256 * q.int).toNat (Jh 2 ⟨B, P, e⟩).view) = true := (Xx.1 (Ze (JaH hk2) _)).1
    rw [h1, h2] at hr
    refine (Ja (by rw [Bool.and_true]; exact hbo)).trans ?_
    exact hr
 · cases hr
def N45 : Nat := 16
def F45 : Fns := Js 46 JvO (F0)
theorem JrP : Jq tau Try.prog F45 := (Jt).add JrO JA8
def Joh : Code := Qj (Try.f45.body.get!) [1, 1, 0, 1, 0, 0]
def Jel : Nm := [(0, .any), (2, .any), (3, .any), (4, .any)]
def Jlm : Nm := [(2, .any), (3, .any)]
def JrQ : An := (.seq (.seq .leaf (.cond .leaf .leaf)) (.seq (.block none .leaf) .leaf))
def JvP (r0 : Qz) : An := (.seq .leaf (.seq .leaf (.seq (.seq .leaf (.block none (.sum Jel N45 r0))) (.seq .leaf .leaf))))
abbrev JrR := Int -> Bool -> Bool -> List PV -> Int -> Int -> List PV -> List PV -> OR
def JaI (f : Nat) (rc : JrR) (k0 : Bool -> Bool -> List PV -> Int -> Int -> List PV -> List PV -> OR) (v0 : Int) (v1 v2 : Bool) (v3 : List PV) (v4 v5 : Int) (v6 v7 : List PV) : OR := bif decide (v0 < 32) then bif okT (RT.mk v3 v4 v5) then bif decide (0 <= v0) && decide (v0 < zi 32) && true then rc (IntKind.i64.wrap (v0 + 1)) v1 v2 ((Jh 1 (RT.mk v3 v4 v5)).B) ((Jh 1 (RT.mk v3 v4 v5)).P) ((Jh 1 (RT.mk v3 v4 v5)).e) v6 (v7.set v0.toNat (.sc (.int .u8 (IntKind.u8.wrap (Qm 1 (RT.mk v3 v4 v5)))))) else none else none else k0 v1 v2 v3 v4 v5 v6 v7
def Gx (f : Nat) (k0 : Bool -> Bool -> List PV -> Int -> Int -> List PV -> List PV -> OR) : Nat -> JrR
 | 0 => fun _ _ _ _ _ _ _ _ => none
 | n + 1 => JaI f (Gx f k0 n) k0
def JaJ (k : Kont) := fun x0 x1 x2 x3 x4 x5 x6 => k (Ex.exit 0) (Jj Jlm N45 [.ptr 273 [], .ptr 274 []] [(0, .box false 135 (PV.st 135 [.ro 5 x0 x1 x2, .sc (.int .i64 x3), .sc (.int .i64 x4)])), (273, .box false 37 (PV.ar 37 x5)), (274, .box false 37 (PV.ar 37 x6))])
def Jln (f : Nat) (k : Kont) (n : Nat) (v0 : Int) (v1 v2 : Bool) (v3 : List PV) (v4 v5 : Int) (v6 v7 : List PV) : OR := Jy tau 1 Jel (fun s k => ev tau F45 1 0 Joh (JrQ ) s k) n (Jj Jel N45 [.ptr 0 [], .ptr 273 [], .ptr 274 [], .sc (.int .i64 v0)] [(0, .box false 135 (PV.st 135 [.ro 5 v1 v2 v3, .sc (.int .i64 v4), .sc (.int .i64 v5)])), (273, .box false 37 (PV.ar 37 v6)), (274, .box false 37 (PV.ar 37 v7))]) (JI tau 1 Jlm k)
theorem JvQ (f : Nat) (k : Kont) (n : Nat) : Jln f k (n + 1) = JaI f (Jln f k n) (JaJ k) := by kernel_rfl
theorem Joi (f : Nat) (k : Kont) : ∀ n, Jln f k n = Gx f (JaJ k) n
 | 0 => rfl
 | n + 1 => (JvQ f k n).trans (congrArg (fun r => JaI f r (JaJ k)) (Joi f k n))
def Jem (f : Nat) : List PV -> List (Nat × Ent) -> Kont -> OR
 | [.ptr 0 [], .ptr 273 [], .ptr 274 [],
 PV.sc
  (Value.int IntKind.i64
   v0)], [(0, .box false 135 (PV.st 135 [.ro 5 v1 v2 v3, .sc (.int .i64 v4), .sc (.int .i64 v5)])), (273, .box false 37 (PV.ar 37 v6)),
 (274,
  Ent.box false 37
   (PV.ar 37
    v7))], k => Gx f (JaJ k) f v0 v1 v2 v3 v4 v5 v6 v7
 | _, _, _ => none
theorem JBc (f : Nat) : Jg Joh JrQ = [] := by kernel_rfl
theorem JBd (f : Nat) : (Item.l Joh Jel N45 (Jem f)).Ok tau Try.prog 1 := Ju Jn JrP Jo (x := JrQ) (nm2 := Jlm) (Jk _ _ (by rw [JBc f]; intro q hq; cases hq)) fun vs hp k res hr => by
 unfold Jem at hr
 split at hr
 · rw [← Joi f] at hr; exact ⟨f, 0, hr⟩
 · cases hr
abbrev JrS := (Jcb)
def g45 (f : Nat) (y0 y1 : Bool) (r_B : List PV) (r_P y2 : Int) (k : KR) : OR := Gx f (fun x0_0 x1_0 x2_0 JR x4_0 _ x6_0 => k (Res.mk (.ar 37 x6_0) [.box false 135 (PV.st 135 [.ro 5 x0_0 x1_0 x2_0, .sc (.int .i64 JR), .sc (.int .i64 x4_0)])] [])) f (0) y0 y1 r_B r_P y2 JrS JrS
theorem e45 (f : Nat) (y0 y1 : Bool) (r_B : List PV) (r_P y2 : Int) (k : KR) : JK tau F45 Try.f45 (Try.f45.body.get!) (JvP (Jem f)) [.ro] 0 [.ptr 0 []] [.box false 135 (.st 135 [.ro 5 y0 y1 r_B, .sc (.int .i64 r_P), .sc (.int .i64 y2)])] k = g45 f y0 y1 r_B r_P y2 k := by kernel_rfl
theorem JLZ (f : Nat) : Jg (Try.f45.body.get!) (JvP (Jem f)) = [.l Joh Jel N45 (Jem f)] := by kernel_rfl
theorem JL0 (f : Nat) : ∀ q ∈ Jg (Try.f45.body.get!) (JvP (Jem f)), q.Ok tau Try.prog 1 := by rw [JLZ f]; exact JL (JBd f) (fun _ h => nomatch h)
theorem JFZ : Try.prog.funcs[45]? = some Try.f45 := by kernel_rfl
theorem JF0 : Try.f45.body = some (Try.f45.body.get!) := by kernel_rfl
theorem JL1 : Enters Try.prog 45 := enters_of JFZ (by kernel_rfl) JF0
def JF1 : Fns := F0
theorem JvR : Jq tau Try.prog JF1 := Jt
def JrT : An := (.seq .leaf (.seq .leaf (.seq .leaf .leaf)))
def JF2 (f : Nat) (x k1 : Int) (k : KR) : OR := bif decide (0 <= IntKind.u64.wrap (32 - JM BinOp.and IntKind.u64 (IntKind.u64.wrap k1) 31)) && true then k (Res.mk (.sc (.int .u32 (JM BinOp.or IntKind.u32 (Xt IntKind.u32 x (JM BinOp.and IntKind.u64 (IntKind.u64.wrap k1) 31)) (JX IntKind.u32 x (IntKind.u64.wrap (32 - JM BinOp.and IntKind.u64 (IntKind.u64.wrap k1) 31)))))) [] []) else none
theorem JL2 (f : Nat) (x k1 : Int) (k : KR) : JK tau JF1 Try.f134 (Try.f134.body.get!) JrT [.ro] 0 [.sc (.int .u32 x), .sc (.int .i64 k1)] [] k = JF2 f x k1 k := by kernel_rfl
theorem JF3 (f : Nat) : ∀ q ∈ Jg (Try.f134.body.get!) JrT, q.Ok tau Try.prog 0 := Jx (by kernel_rfl)
theorem Jyz : Try.prog.funcs[134]? = some Try.f134 := by kernel_rfl
theorem JyA : Try.f134.body = some (Try.f134.body.get!) := by kernel_rfl
theorem JF4 : Enters Try.prog 134 := enters_of Jyz (by kernel_rfl) JyA
def Jlo : JA
 | [.sc (.int .u32 x), .sc (.int .i64 k1)], [], k => JF2 0 x k1 k
 | _, _, _ => none
def JF5 : Sig := { own := [], run := Jlo }
theorem JF6 : Jc tau Try.prog 134 JF5 := JP Jn JvR Jo Jyz JyA JrT [.ro] 0 [] Jlo (JF3 0) fun xs es k res hr => by
 unfold Jlo at hr
 split at hr
 · exact ⟨rfl, 0, (JL2 0 _ _  _).trans hr⟩
 · cases hr
def JF7 : Fns := Js 134 JF5 (F0)
theorem JvS : Jq tau Try.prog JF7 := (Jt).add JF6 JF4
def JrU : An := (.seq .leaf (.seq .leaf .leaf))
def JvT (f : Nat) (x n : Int) (k : KR) : OR := bif decide (0 <= IntKind.u64.wrap (32 - JM BinOp.and IntKind.u64 (IntKind.u64.wrap (IntKind.i64.wrap (0 - n))) 31)) && true then k (Res.mk (.sc (.int .u32 (JM BinOp.or IntKind.u32 (Xt IntKind.u32 x (JM BinOp.and IntKind.u64 (IntKind.u64.wrap (IntKind.i64.wrap (0 - n))) 31)) (JX IntKind.u32 x (IntKind.u64.wrap (32 - JM BinOp.and IntKind.u64 (IntKind.u64.wrap (IntKind.i64.wrap (0 - n))) 31)))))) [] []) else none
theorem JL3 (f : Nat) (x n : Int) (k : KR) : JK tau JF7 Try.f117 (Try.f117.body.get!) JrU [.ro] 0 [.sc (.int .u32 x), .sc (.int .i64 n)] [] k = JvT f x n k := by kernel_rfl
theorem JF8 (f : Nat) : ∀ q ∈ Jg (Try.f117.body.get!) JrU, q.Ok tau Try.prog 0 := Jx (by kernel_rfl)
theorem JyB : Try.prog.funcs[117]? = some Try.f117 := by kernel_rfl
theorem JyC : Try.f117.body = some (Try.f117.body.get!) := by kernel_rfl
theorem JyD : Enters Try.prog 117 := enters_of JyB (by kernel_rfl) JyC
def Jlp : JA
 | [.sc (.int .u32 x), .sc (.int .i64 n)], [], k => JvT 0 x n k
 | _, _, _ => none
def JL4 : Sig := { own := [], run := Jlp }
theorem JF9 : Jc tau Try.prog 117 JL4 := JP Jn JvS Jo JyB JyC JrU [.ro] 0 [] Jlp (JF8 0) fun xs es k res hr => by
 unfold Jlp at hr
 split at hr
 · exact ⟨rfl, 0, (JL3 0 _ _  _).trans hr⟩
 · cases hr
def F96 : Fns := F0
theorem JBe : Jq tau Try.prog F96 := Jt
def JBf : An := (.seq .leaf (.seq .leaf .leaf))
def g96 (f : Nat) (x n : Int) (k : KR) : OR := bif decide (0 <= n) && true then bif decide (0 <= IntKind.u64.wrap (32 - n)) && true then k (Res.mk (.sc (.int .u32 (JM BinOp.or IntKind.u32 (JX IntKind.u32 x n) (Xt IntKind.u32 x (IntKind.u64.wrap (32 - n)))))) [] []) else none else none
theorem e96 (f : Nat) (x n : Int) (k : KR) : JK tau F96 Try.f96 (Try.f96.body.get!) JBf [.ro] 0 [.sc (.int .u32 x), .sc (.int .u64 n)] [] k = g96 f x n k := by kernel_rfl
theorem JL5 (f : Nat) : ∀ q ∈ Jg (Try.f96.body.get!) JBf, q.Ok tau Try.prog 0 := Jx (by kernel_rfl)
theorem JGa : Try.prog.funcs[96]? = some Try.f96 := by kernel_rfl
theorem JGb : Try.f96.body = some (Try.f96.body.get!) := by kernel_rfl
theorem JL6 : Enters Try.prog 96 := enters_of JGa (by kernel_rfl) JGb
def JrV : JA
 | [.sc (.int .u32 x), .sc (.int .u64 n)], [], k => g96 0 x n k
 | _, _, _ => none
def s96 : Sig := { own := [], run := JrV }
theorem JL7 : Jc tau Try.prog 96 s96 := JP Jn JBe Jo JGa JGb JBf [.ro] 0 [] JrV (JL5 0) fun xs es k res hr => by
 unfold JrV at hr
 split at hr
 · exact ⟨rfl, 0, (e96 0 _ _  _).trans hr⟩
 · cases hr
def rr (x n : Int) : Int := JM .or .u32 (Xt .u32 x (32 - n)) (JX .u32 x n)
theorem Jho (x y : Int) : JM .or .u32 x y = JM .or .u32 y x := by
 simp only [JM]; rw [BitVec.or_comm]
theorem JrW {P : Int -> Prop} (h : ∀ m : Nat, m < 31 -> P ((m : Int) + 1)) (n : Int) (h1 : 1 <= n) (h2 : n <= 31) : P n := by
 have := h (n - 1).toNat (by omega)
 have he : (((n - 1).toNat : Nat) : Int) + 1 = n := by omega
 rwa [he] at this
def Jhp : JA
 | [.sc (.int .u32 x), .sc (.int .i64 n)], [], k => bif decide (1 <= n) && decide (n <= 31) then k ⟨.sc (.int .u32 (rr x n)), [], []⟩ else none
 | _, _, _ => none
def JrX : Sig := { own := [], run := Jhp }
theorem Jlq (x : Int) (k : KR) (n : Int) (h1 : 1 <= n) (h2 : n <= 31) : JvT 0 x n k = k ⟨.sc (.int .u32 (rr x n)), [], []⟩ := by
 refine JrW (P := fun n => JvT 0 x n k = k ⟨.sc (.int .u32 (rr x n)), [], []⟩) ?_ n h1 h2
 intro m hm
 iterate 31 (rcases m with _ | m; · kernel_rfl)
 omega
theorem JrY : Jc tau Try.prog 117 JrX := JF9.of fun xs es k res hr => by
 change Jhp xs es k = some res at hr
 unfold Jhp at hr
 split at hr
 · obtain ⟨hc, hr⟩ := Jw hr
   simp only [Bool.and_eq_true, decide_eq_true_eq] at hc
   exact (Jlq _ _ _ hc.1 hc.2).trans hr
 · cases hr
def Jlr : JA
 | [.sc (.int .u32 x), .sc (.int .u64 n)], [], k => bif decide (1 <= n) && decide (n <= 31) then k ⟨.sc (.int .u32 (rr x n)), [], []⟩ else none
 | _, _, _ => none
def JGc : Sig := { own := [], run := Jlr }
theorem Jqm (x : Int) (k : KR) (n : Int) (h1 : 1 <= n) (h2 : n <= 31) : g96 0 x n k = k ⟨.sc (.int .u32 (rr x n)), [], []⟩ := by
 have hc : ∀ n, rr x n = JM .or .u32 (JX .u32 x n) (Xt .u32 x (32 - n)) := fun n => Jho _ _
 rw [hc]
 refine JrW (P := fun n => g96 0 x n k = k ⟨.sc (.int .u32 (JM .or .u32 (JX .u32 x n) (Xt .u32 x (32 - n)))), [], []⟩) ?_ n h1 h2
 intro m hm
 iterate 31 (rcases m with _ | m; · kernel_rfl)
 omega
theorem JGd : Jc tau Try.prog 96 JGc := JL7.of fun xs es k res hr => by
 change Jlr xs es k = some res at hr
 unfold Jlr at hr
 split at hr
 · obtain ⟨hc, hr⟩ := Jw hr
   simp only [Bool.and_eq_true, decide_eq_true_eq] at hc
   exact (Jqm _ _ _ hc.1 hc.2).trans hr
 · cases hr
def JfO : Nat := 89
def JvU : Fns := Js 117 JrX (F0)
theorem Jhq : Jq tau Try.prog JvU := (Jt).add JrY JyD
def Jhr : Code := Qj (Try.f115.body.get!) [1, 1, 0, 1, 0, 0]
def JaK : Nm := [(0, .any), (2, .any), (3, .any), (8, .any)]
def Jhs : Nm := [(2, .any), (3, .any)]
def Jls : An := (.seq .leaf (.seq (.cond .leaf .leaf) (.seq (.block none (.seq .leaf .leaf)) .leaf)))
def Jht : Code := Qj (Try.f115.body.get!) [1, 1, 1, 0, 1, 0, 0]
def JaL : Nm := [(2, .any), (3, .any), (5, .any)]
def Jhu : Nm := [(2, .any), (3, .any)]
def Jlt : An := (.seq (.seq .leaf (.cond .leaf .leaf)) (.seq (.block none (.seq .leaf .leaf)) .leaf))
def JrZ (r0 : Qz) (r1 : Qz) : An := (.seq .leaf (.seq .leaf (.seq (.seq .leaf (.block none (.sum JaK JfO r0))) (.seq (.seq .leaf (.block none (.sum JaL JfO r1))) (.seq .leaf .leaf)))))
abbrev Joj := Bool -> Bool -> List PV -> Int -> List PV -> List PV -> OR
def Z3 (f : Nat) (rc : Joj) (k0 : List PV -> List PV -> OR) (v0 v1 : Bool) (v2 : List PV) (v3 : Int) (v4 v5 : List PV) : OR := bif decide (v3 < 16) then bif decide (0 <= IntKind.i64.wrap (4 * v3)) && decide (IntKind.i64.wrap (4 * v3) < zi v2.length) && PV.isInt IntKind.u8 (v2.getD (IntKind.i64.wrap (4 * v3)).toNat PV.top) && true then bif decide (0 <= IntKind.i64.wrap (IntKind.i64.wrap (4 * v3) + 1)) && decide (IntKind.i64.wrap (IntKind.i64.wrap (4 * v3) + 1) < zi v2.length) && PV.isInt IntKind.u8 (v2.getD (IntKind.i64.wrap (IntKind.i64.wrap (4 * v3) + 1)).toNat PV.top) && true then bif decide (0 <= IntKind.i64.wrap (IntKind.i64.wrap (4 * v3) + 2)) && decide (IntKind.i64.wrap (IntKind.i64.wrap (4 * v3) + 2) < zi v2.length) && PV.isInt IntKind.u8 (v2.getD (IntKind.i64.wrap (IntKind.i64.wrap (4 * v3) + 2)).toNat PV.top) && true then bif decide (0 <= IntKind.i64.wrap (IntKind.i64.wrap (4 * v3) + 3)) && decide (IntKind.i64.wrap (IntKind.i64.wrap (4 * v3) + 3) < zi v2.length) && PV.isInt IntKind.u8 (v2.getD (IntKind.i64.wrap (IntKind.i64.wrap (4 * v3) + 3)).toNat PV.top) && true then bif decide (0 <= v3) && decide (v3 < zi 64) && true then rc v0 v1 v2 (IntKind.i64.wrap (v3 + 1)) v4 (v5.set v3.toNat (.sc (.int .u32 (JM BinOp.or IntKind.u32 (JM BinOp.or IntKind.u32 (JM BinOp.or IntKind.u32 (Xt IntKind.u32 (IntKind.u32.wrap (v2.getD (IntKind.i64.wrap (4 * v3)).toNat PV.top).int) 24) (Xt IntKind.u32 (IntKind.u32.wrap (v2.getD (IntKind.i64.wrap (IntKind.i64.wrap (4 * v3) + 1)).toNat PV.top).int) 16)) (Xt IntKind.u32 (IntKind.u32.wrap (v2.getD (IntKind.i64.wrap (IntKind.i64.wrap (4 * v3) + 2)).toNat PV.top).int) 8)) (IntKind.u32.wrap (v2.getD (IntKind.i64.wrap (IntKind.i64.wrap (4 * v3) + 3)).toNat PV.top).int))))) else none else none else none else none else none else k0 v4 v5
def Yk (f : Nat) (k0 : List PV -> List PV -> OR) : Nat -> Joj
 | 0 => fun _ _ _ _ _ _ => none
 | n + 1 => Z3 f (Yk f k0 n) k0
def VK (k : Kont) := fun x0 x1 => k (Ex.exit 0) (Jj Jhs JfO [.ptr 1440 [], .ptr 1441 []] [(1440, .box false 159 (PV.ar 159 x0)), (1441, .box false 159 (PV.ar 159 x1))])
def Jhv (f : Nat) (k : Kont) (n : Nat) (v0 v1 : Bool) (v2 : List PV) (v3 : Int) (v4 v5 : List PV) : OR := Jy tau 0 JaK (fun s k => ev tau JvU 0 0 Jhr (Jls ) s k) n (Jj JaK JfO [.ro 5 v0 v1 v2, .ptr 1440 [], .ptr 1441 [], .sc (.int .i64 v3)] [(1440, .box false 159 (PV.ar 159 v4)), (1441, .box false 159 (PV.ar 159 v5))]) (JI tau 0 Jhs k)
theorem Jr0 (f : Nat) (k : Kont) (n : Nat) : Jhv f k (n + 1) = Z3 f (Jhv f k n) (VK k) := by kernel_rfl
theorem Jjz (f : Nat) (k : Kont) : ∀ n, Jhv f k n = Yk f (VK k) n
 | 0 => rfl
 | n + 1 => (Jr0 f k n).trans (congrArg (fun r => Z3 f r (VK k)) (Jjz f k n))
def Jcd (f : Nat) : List PV -> List (Nat × Ent) -> Kont -> OR
 | [.ro 5 v0 v1 v2, .ptr 1440 [], .ptr 1441 [],
 PV.sc
  (Value.int IntKind.i64
   v3)], [(1440, .box false 159 (PV.ar 159 v4)),
 (1441,
  Ent.box false 159
   (PV.ar 159
    v5))], k => Yk f (VK k) f v0 v1 v2 v3 v4 v5
 | _, _, _ => none
theorem JvV (f : Nat) : Jg Jhr Jls = [] := by kernel_rfl
theorem JvW (f : Nat) : (Item.l Jhr JaK JfO (Jcd f)).Ok tau Try.prog 0 := Ju Jn Jhq Jo (x := Jls) (nm2 := Jhs) (Jk _ _ (by rw [JvV f]; intro q hq; cases hq)) fun vs hp k res hr => by
 unfold Jcd at hr
 split at hr
 · rw [← Jjz f] at hr; exact ⟨f, 0, hr⟩
 · cases hr
abbrev Jok := Int -> List PV -> List PV -> OR
abbrev Wp (v0 : Int) (v2 : List PV) := (Jr (PV.ar 159 v2) [(IntKind.i64.wrap (v0 - 15)).toNat])
abbrev Wq (v0 : Int) (v2 : List PV) := (Jr (PV.ar 159 v2) [(IntKind.i64.wrap (v0 - 2)).toNat])
def Z4 (f : Nat) (rc : Jok) (k0 : List PV -> List PV -> OR) (v0 : Int) (v1 v2 : List PV) : OR := bif decide (v0 < 64) then bif decide (0 <= IntKind.i64.wrap (v0 - 15)) && decide (IntKind.i64.wrap (v0 - 15) < zi 64) && true then bif PV.isInt IntKind.u32 (Wp v0 v2) && true then bif decide (0 <= IntKind.i64.wrap (v0 - 2)) && decide (IntKind.i64.wrap (v0 - 2) < zi 64) && true then bif PV.isInt IntKind.u32 (Wq v0 v2) && true then bif decide (0 <= IntKind.i64.wrap (v0 - 16)) && decide (IntKind.i64.wrap (v0 - 16) < zi 64) && true then bif PV.isInt IntKind.u32 (Jr (PV.ar 159 v2) [(IntKind.i64.wrap (v0 - 16)).toNat]) && true then bif decide (0 <= IntKind.i64.wrap (v0 - 7)) && decide (IntKind.i64.wrap (v0 - 7) < zi 64) && true then bif PV.isInt IntKind.u32 (Jr (PV.ar 159 v2) [(IntKind.i64.wrap (v0 - 7)).toNat]) && true then bif decide (0 <= v0) && decide (v0 < zi 64) && true then rc (IntKind.i64.wrap (v0 + 1)) v1 (v2.set v0.toNat (.sc (.int .u32 (IntKind.u32.wrap (IntKind.u32.wrap (IntKind.u32.wrap ((Jr (PV.ar 159 v2) [(IntKind.i64.wrap (v0 - 16)).toNat]).int + JM BinOp.xor IntKind.u32 (JM BinOp.xor IntKind.u32 (rr (Wp v0 v2).int 7) (rr (Wp v0 v2).int 18)) (JX IntKind.u32 (Wp v0 v2).int 3)) + (Jr (PV.ar 159 v2) [(IntKind.i64.wrap (v0 - 7)).toNat]).int) + JM BinOp.xor IntKind.u32 (JM BinOp.xor IntKind.u32 (rr (Wq v0 v2).int 17) (rr (Wq v0 v2).int 19)) (JX IntKind.u32 (Wq v0 v2).int 10)))))) else none else none else none else none else none else none else none else none else none else k0 v1 v2
def Yl (f : Nat) (k0 : List PV -> List PV -> OR) : Nat -> Jok
 | 0 => fun _ _ _ => none
 | n + 1 => Z4 f (Yl f k0 n) k0
def VL (k : Kont) := fun x0 x1 => k (Ex.exit 2) (Jj Jhu JfO [.ptr 1440 [], .ptr 1441 []] [(1440, .box false 159 (PV.ar 159 x0)), (1441, .box false 159 (PV.ar 159 x1))])
def Jhw (f : Nat) (k : Kont) (n : Nat) (v0 : Int) (v1 v2 : List PV) : OR := Jy tau 0 JaL (fun s k => ev tau JvU 0 0 Jht (Jlt ) s k) n (Jj JaL JfO [.ptr 1440 [], .ptr 1441 [], .sc (.int .i64 v0)] [(1440, .box false 159 (PV.ar 159 v1)), (1441, .box false 159 (PV.ar 159 v2))]) (JI tau 0 Jhu k)
theorem Jr1 (f : Nat) (k : Kont) (n : Nat) : Jhw f k (n + 1) = Z4 f (Jhw f k n) (VL k) := by kernel_rfl
theorem JjA (f : Nat) (k : Kont) : ∀ n, Jhw f k n = Yl f (VL k) n
 | 0 => rfl
 | n + 1 => (Jr1 f k n).trans (congrArg (fun r => Z4 f r (VL k)) (JjA f k n))
def Jce (f : Nat) : List PV -> List (Nat × Ent) -> Kont -> OR
 | [.ptr 1440 [], .ptr 1441 [],
 PV.sc
  (Value.int IntKind.i64
   v0)], [(1440, .box false 159 (PV.ar 159 v1)),
 (1441,
  Ent.box false 159
   (PV.ar 159
    v2))], k => Yl f (VL k) f v0 v1 v2
 | _, _, _ => none
theorem JvX (f : Nat) : Jg Jht Jlt = [] := by kernel_rfl
theorem JvY (f : Nat) : (Item.l Jht JaL JfO (Jce f)).Ok tau Try.prog 0 := Ju Jn Jhq Jo (x := Jlt) (nm2 := Jhu) (Jk _ _ (by rw [JvX f]; intro q hq; cases hq)) fun vs hp k res hr => by
 unfold Jce at hr
 split at hr
 · rw [← JjA f] at hr; exact ⟨f, 0, hr⟩
 · cases hr
abbrev Jol := (Jn3)
def JGe (f : Nat) (b_z b_f : Bool) (b : List PV) (k : KR) : OR := Yk f (fun x0_0 x1_0 => Yl f (fun _ x1_1 => k (Res.mk (.ar 159 x1_1) [] [])) f (16) x0_0 x1_0) f b_z b_f b (0) Jol Jol
theorem JL8 (f : Nat) (b_z b_f : Bool) (b : List PV) (k : KR) : JK tau JvU Try.f115 (Try.f115.body.get!) (JrZ (Jcd f) (Jce f)) [] 0 [.ro 5 b_z b_f b] [] k = JGe f b_z b_f b k := by kernel_rfl
theorem JGf (f : Nat) : Jg (Try.f115.body.get!) (JrZ (Jcd f) (Jce f)) = [.l Jhr JaK JfO (Jcd f), .l Jht JaL JfO (Jce f)] := by kernel_rfl
theorem JGg (f : Nat) : ∀ q ∈ Jg (Try.f115.body.get!) (JrZ (Jcd f) (Jce f)), q.Ok tau Try.prog 0 := by rw [JGf f]; exact JL (JvW f) (JL (JvY f) (fun _ h => nomatch h))
theorem JyE : Try.prog.funcs[115]? = some Try.f115 := by kernel_rfl
theorem JyF : Try.f115.body = some (Try.f115.body.get!) := by kernel_rfl
theorem JGh : Enters Try.prog 115 := enters_of JyE (by kernel_rfl) JyF
abbrev ww (x : Int) : Int := IntKind.u32.wrap x
def JGi (a b c d : Int) : Int := JM .or .u32 (JM .or .u32 (JM .or .u32 (Xt .u32 (ww a) 24) (Xt .u32 (ww b) 16)) (Xt .u32 (ww c) 8)) (ww d)
def sg0 (x : Int) : Int := JM .xor .u32 (JM .xor .u32 (rr x 7) (rr x 18)) (JX .u32 x 3)
def sg1 (x : Int) : Int := JM .xor .u32 (JM .xor .u32 (rr x 17) (rr x 19)) (JX .u32 x 10)
def JBg (w16 w15 w7 w2 : Int) : Int := ww (ww (ww (w16 + sg0 w15) + w7) + sg1 w2)
def word (bs : List Int) (j : Nat) : Int := JGi (bs.getD (4 * j) 0) (bs.getD (4 * j + 1) 0) (bs.getD (4 * j + 2) 0) (bs.getD (4 * j + 3) 0)
def Q0 (bs : List Int) : Nat -> List Int
 | 0 => (List.range 16).map (word bs)
 | i + 1 => Q0 bs i ++ [JBg ((Q0 bs i).getD i 0) ((Q0 bs i).getD (i + 1) 0) ((Q0 bs i).getD (i + 9) 0) ((Q0 bs i).getD (i + 14) 0)]
def Qt (bs : List Int) : List Int := Q0 bs 48
theorem Qg (bs : List Int) : ∀ i, (Q0 bs i).length = 16 + i
 | 0 => by simp [Q0]
 | i + 1 => by simp [Q0, Qg bs i]; omega
def Jen (bs : List Int) (i : Nat) : List Int := (List.range i).map (word bs) ++ List.replicate (64 - i) 0
def JcX (bs : List Int) (i : Nat) : List Int := Q0 bs i ++ List.replicate (48 - i) 0
theorem Jhx (bs : List Int) (i : Nat) (h : i <= 48) : (JcX bs i).length = 64 := by simp [JcX, Qg]; omega
theorem JjB (L : List Int) (m : Nat) (x : Int) : (L ++ List.replicate (m + 1) 0).set L.length x = (L ++ [x]) ++ List.replicate m 0 := by
 simp [List.replicate_succ]
theorem Jqn (bs : List Int) (i : Nat) (h : i < 64) : (Jen bs i).set i (word bs i) = Jen bs (i + 1) := by
 have := JjB ((List.range i).map (word bs)) (63 - i) (word bs i)
 simp only [List.length_map, List.length_range] at this
 simp only [Jen, show 64 - i = 63 - i + 1 from by omega, this, show 64 - (i + 1) = 63 - i from by omega, List.range_succ, List.map_append, List.map_cons, List.map_nil]
theorem VM (bs : List Int) (i j : Nat) (h : j < 16 + i) : (JcX bs i).getD j 0 = (Q0 bs i).getD j 0 := by
 simp only [JcX, List.getD_eq_getElem?_getD]
 rw [List.getElem?_append_left (by rw [Qg]; exact h)]
theorem Jqo (bs : List Int) (i : Nat) (h : i < 48) (x : Int) : (JcX bs i).set (i + 16) x = (Q0 bs i ++ [x]) ++ List.replicate (48 - (i + 1)) 0 := by
 have := JjB (Q0 bs i) (47 - i) x
 rw [Qg] at this
 rw [JcX, show 48 - i = 47 - i + 1 from by omega, show i + 16 = 16 + i from by omega, this, show 48 - (i + 1) = 47 - i from by omega]
theorem Jr2 (bs : List Int) (hb : bs.length = 64) (f : Nat) (k0 : List PV -> List PV -> OR) (nl fl : Bool) (w : List PV) : ∀ (d i n : Nat), i + d = 16 -> d < n ->
  Yk f k0 n nl fl (pu .u8 bs) (i : Int) w (pu .u32 (Jen bs i)) = k0 w (pu .u32 (Jen bs 16))
 | 0, i, n + 1, h, hn => by
   obtain rfl : i = 16 := by omega
   simp only [Yk, Z3]
   exact Jd (by decide)
 | d + 1, i, n + 1, h, hn => by
   have h4 : IntKind.i64.wrap (4 * (i : Int)) = ((4 * i : Nat) : Int) := by rw [wrap_i64 (by omega) (by omega)]; omega
   have h41 : IntKind.i64.wrap (((4 * i : Nat) : Int) + 1) = ((4 * i + 1 : Nat) : Int) := by rw [wrap_i64 (by omega) (by omega)]; omega
   have h42 : IntKind.i64.wrap (((4 * i : Nat) : Int) + 2) = ((4 * i + 2 : Nat) : Int) := by rw [wrap_i64 (by omega) (by omega)]; omega
   have h43 : IntKind.i64.wrap (((4 * i : Nat) : Int) + 3) = ((4 * i + 3 : Nat) : Int) := by rw [wrap_i64 (by omega) (by omega)]; omega
   have h5 := wI (i := i) (by omega)
   simp only [Yk, Z3, h4, h41, h42, h43, h5, Int.toNat_natCast, zi]
   rw [J7 (by omega), J7 (by omega), J7 (by omega), J7 (by omega), QI (by omega), QI (by omega), QI (by omega), QI (by omega), JG, Xq]
   refine (Ja (by simp; omega)).trans ?_
   refine (Ja (by simp; omega)).trans ?_
   refine (Ja (by simp; omega)).trans ?_
   refine (Ja (by simp; omega)).trans ?_
   refine (Ja (by simp; omega)).trans ?_
   refine (Ja (by simp; omega)).trans ?_
   have := Jr2 bs hb f k0 nl fl w d (i + 1) n (by omega) (by omega)
   rw [← Jqn bs i (by omega)] at this
   exact this
theorem Jr3 (bs : List Int) (f : Nat) (k0 : List PV -> List PV -> OR) (w : List PV) : ∀ (d i n : Nat), i + d = 48 -> d < n ->
  Yl f k0 n ((i + 16 : Nat) : Int) w (pu .u32 (JcX bs i)) = k0 w (pu .u32 (Q0 bs 48))
 | 0, i, n + 1, h, hn => by
   obtain rfl : i = 48 := by omega
   simp only [Yl, Z4, Wq, Wp]
   exact (Jd (by decide)).trans (by simp [JcX])
 | d + 1, i, n + 1, h, hn => by
   have h15 : IntKind.i64.wrap (((i + 16 : Nat) : Int) - 15) = ((i + 1 : Nat) : Int) := by rw [wrap_i64 (by omega) (by omega)]; omega
   have h2 : IntKind.i64.wrap (((i + 16 : Nat) : Int) - 2) = ((i + 14 : Nat) : Int) := by rw [wrap_i64 (by omega) (by omega)]; omega
   have h16 : IntKind.i64.wrap (((i + 16 : Nat) : Int) - 16) = ((i : Nat) : Int) := by rw [wrap_i64 (by omega) (by omega)]; omega
   have h7 : IntKind.i64.wrap (((i + 16 : Nat) : Int) - 7) = ((i + 9 : Nat) : Int) := by rw [wrap_i64 (by omega) (by omega)]; omega
   have h1 : IntKind.i64.wrap (((i + 16 : Nat) : Int) + 1) = ((i + 1 + 16 : Nat) : Int) := by rw [wrap_i64 (by omega) (by omega)]; omega
   have hl := Jhx bs i (by omega)
   simp only [Yl, Z4, Wq, Wp, h15, h2, h16, h7, h1, Int.toNat_natCast, zi, Yh]
   rw [J7 (by omega), J7 (by omega), J7 (by omega), J7 (by omega), QI (by omega), QI (by omega), QI (by omega), QI (by omega), Xq]
   refine (Ja (by simp; omega)).trans ?_
   refine (Ja (by simp; omega)).trans ?_
   refine (Ja (by simp)).trans ?_
   refine (Ja (by simp; omega)).trans ?_
   refine (Ja (by simp)).trans ?_
   refine (Ja (by simp; omega)).trans ?_
   refine (Ja (by simp)).trans ?_
   refine (Ja (by simp; omega)).trans ?_
   refine (Ja (by simp)).trans ?_
   refine (Ja (by simp; omega)).trans ?_
   have := Jr3 bs f k0 w d (i + 1) n (by omega) (by omega)
   rw [VM bs i i (by omega), VM bs i (i + 1) (by omega), VM bs i (i + 9) (by omega), VM bs i (i + 14) (by omega), Jqo bs i (by omega)]
   exact this
theorem JvZ (bs : List Int) (hb : bs.length = 64) (nl fl : Bool) (k : KR) : JGe 100 nl fl (pu .u8 bs) k = k ⟨.ar 159 (pu .u32 (Qt bs)), [], []⟩ := by
 have h0 : ∀ k0 w, Yk 100 k0 100 nl fl (pu .u8 bs) 0 w (pu .u32 (List.replicate 64 0)) = k0 w (pu .u32 (Jen bs 16)) := fun k0 w => Jr2 bs hb 100 k0 nl fl w 16 0 100 (by omega) (by omega)
 have h1 : ∀ k0 w, Yl 100 k0 100 16 w (pu .u32 (Jen bs 16)) = k0 w (pu .u32 (Q0 bs 48)) := fun k0 w => Jr3 bs 100 k0 w 48 0 100 (by omega) (by omega)
 exact (h0 _ _).trans (h1 _ _)
def Jhy : JA
 | [.ro 5 nl fl b], [], k => bif Jl .u8 b && decide (b.length = 64) then k ⟨.ar 159 (pu .u32 (Qt (JD b))), [], []⟩ else none
 | _, _, _ => none
def JyG : Sig := { own := [], run := Jhy }
theorem JBh : Jc tau Try.prog 115 JyG := JP Jn Jhq Jo JyE JyF _ [] 0 [] Jhy (JGg 100) fun xs es k res hr => by
 unfold Jhy at hr
 split at hr
 · obtain ⟨hc, hr⟩ := Jw hr
   simp only [Bool.and_eq_true, decide_eq_true_eq] at hc
   refine ⟨rfl, 0, (JL8 100 _ _ _ _).trans ?_⟩
   rw [QC hc.1, JvZ _ (by simpa using hc.2)]
   exact hr
 · cases hr
def QR (g : Nat -> Int) (t : List Int) (i : Nat) : List Int := (List.range i).map g ++ t.drop i
theorem Wh (g : Nat -> Int) (t : List Int) : QR g t 0 = t := by simp [QR]
theorem WZ (g : Nat -> Int) (t : List Int) : QR g t t.length = (List.range t.length).map g := by simp [QR]
theorem JaM (g : Nat -> Int) (t : List Int) (i : Nat) (h : i <= t.length) : (QR g t i).length = t.length := by simp [QR]; omega
theorem QP (g : Nat -> Int) (t : List Int) (i : Nat) (h : i < t.length) : (QR g t i).set i (g i) = QR g t (i + 1) := by
 rw [QR, List.set_append_right _ _ (by simp), List.drop_eq_getElem_cons h, List.length_map, List.length_range, Nat.sub_self, List.set_cons_zero]
 simp [QR, List.range_succ]
theorem Jgh (g : Nat -> Int) (t : List Int) (i : Nat) (h : i < t.length) : (QR g t i).getD i 0 = t.getD i 0 := by
 simp only [QR, List.getD_eq_getElem?_getD]
 rw [List.getElem?_append_right (by simp)]
 simp
def kks : List Int := [1116352408, 1899447441, 3049323471, 3921009573, 961987163, 1508970993, 2453635748, 2870763221, 3624381080, 310598401, 607225278, 1426881987, 1925078388, 2162078206, 2614888103, 3248222580, 3835390401, 4022224774, 264347078, 604807628, 770255983, 1249150122, 1555081692, 1996064986, 2554220882, 2821834349, 2952996808, 3210313671, 3336571891, 3584528711, 113926993, 338241895, 666307205, 773529912, 1294757372, 1396182291, 1695183700, 1986661051, 2177026350, 2456956037, 2730485921, 2820302411, 3259730800, 3345764771, 3516065817, 3600352804, 4094571909, 275423344, 430227734, 506948616, 659060556, 883997877, 958139571, 1322822218, 1537002063, 1747873779, 1955562222, 2024104815, 2227730452, 2361852424, 2428436474, 2756734187, 3204031479, 3329325298]
def iv : List Int := [1779033703, 3144134277, 1013904242, 2773480762, 1359893119, 2600822924, 528734635, 1541459225]
def xW (k w h e f g : Int) : Int := ww (ww (ww (ww (h + JM .xor .u32 (JM .xor .u32 (rr e 6) (rr e 11)) (rr e 25)) + JM .xor .u32 (JM .and .u32 e f) (JM .and .u32 (JM .xor .u32 (Int.ofNat (2 ^ IntKind.u32.bits - Nat.succ 0)) e) g)) + k) + w)
def yW (a b c : Int) : Int := ww (JM .xor .u32 (JM .xor .u32 (rr a 2) (rr a 13)) (rr a 22) + JM .xor .u32 (JM .xor .u32 (JM .and .u32 a b) (JM .and .u32 a c)) (JM .and .u32 b c))
def rnd (k w : Int) (t : List Int) : List Int :=
 [ww (xW k w (t.getD 7 0) (t.getD 4 0) (t.getD 5 0) (t.getD 6 0) + yW (t.getD 0 0) (t.getD 1 0) (t.getD 2 0)), t.getD 0 0, t.getD 1 0, t.getD 2 0,
  ww (t.getD 3 0 + xW k w (t.getD 7 0) (t.getD 4 0) (t.getD 5 0) (t.getD 6 0)), t.getD 4 0, t.getD 5 0, t.getD 6 0]
def Jcf (W s : List Int) : Nat -> List Int
 | 0 => s
 | i + 1 => rnd (kks.getD i 0) (W.getD i 0) (Jcf W s i)
theorem Ym (W s : List Int) (h : s.length = 8) : ∀ i, (Jcf W s i).length = 8
 | 0 => h
 | i + 1 => rfl
def Jlu (s bs : List Int) : List Int := (List.range 8).map fun i => ww ((Jcf (Qt bs) s 64).getD i 0 + s.getD i 0)
theorem JjC (s bs : List Int) : (Jlu s bs).length = 8 := by simp [Jlu]
def XY (s b : List Int) : Nat -> List Int
 | 0 => s
 | n + 1 => Jlu (XY s b n) ((b.drop (64 * n)).take 64)
theorem Xz (s b : List Int) (h : s.length = 8) : ∀ n, (XY s b n).length = 8
 | 0 => h
 | n + 1 => JjC _ _
def zs (m : Nat) : Nat := (120 - m % 64) % 64
def Jv0 (n : Nat) : List Int := (List.range 8).map fun (i : Nat) => IntKind.u8.wrap (JX .u64 (IntKind.u64.wrap (IntKind.u64.wrap (n : Int) * 8)) (56 - 8 * (i : Int)))
def Q6 (bs : List Int) : List Int := (bs ++ [128] ++ List.replicate (zs (bs.length + 1)) 0) ++ Jv0 bs.length
theorem JcY (bs : List Int) : (Q6 bs).length = 64 * ((Q6 bs).length / 64) := by
 have : (Q6 bs).length = bs.length + 1 + zs (bs.length + 1) + 8 := by simp [Q6, Jv0]; omega
 rw [this]; unfold zs; omega
def ZK (s : List Int) (i : Nat) : Int := IntKind.u8.wrap (JX .u32 (s.getD (i / 4) 0) (24 - 8 * ((i % 4 : Nat) : Int)))
def Jr4 (s : List Int) : List Int := (List.range 32).map (ZK s)
def Jom (bs : List Int) : List Int := Jr4 (XY iv (Q6 bs) ((Q6 bs).length / 64))
def JZ (bs : List Int) : List Int := bif Nat.ble bs.length bs.length then Jom bs else []
theorem Jdq (bs : List Int) : JZ bs = Jom bs := by
 have : Nat.ble bs.length bs.length = true := by rw [Nat.ble_eq]; exact Nat.le_refl _
 rw [JZ, this]; rfl
theorem Qx (bs : List Int) : (JZ bs).length = 32 := by simp [Jdq, Jom, Jr4]
theorem Jeo (n : Nat) : (zi n).tmod 64 = ((n % 64 : Nat) : Int) := by
 show (n : Int).tmod 64 = _
 rw [Int.tmod_eq_emod_of_nonneg (by omega)]; omega
def Jep : Nat -> RS -> RS
 | 0, s => s
 | n + 1, s => Jep n (Qk 1 s)
def JaN : Nat -> RS -> List Int
 | 0, _ => []
 | n + 1, s => IntKind.u8.wrap (WN 1 s) :: JaN n (Qk 1 s)
def Jeq : Nat -> RT -> RT
 | 0, t => t
 | n + 1, t => Jeq n (QY 1 t)
def hashS : RS -> RS := hid (Jep 32)
def hashV : RS -> List Int := hid (JaN 32)
def hashT : RT -> RT := hid (Jeq 32)
def hashVT : RT -> List Int := hid fun t => JaN 32 t.view
theorem hashS_eq (s : RS) : hashS s = Jep 32 s := by rw [hashS, hid_eq]
theorem hashV_eq (s : RS) : hashV s = JaN 32 s := by rw [hashV, hid_eq]
theorem hashT_eq (t : RT) : hashT t = Jeq 32 t := by rw [hashT, hid_eq]
theorem hashVT_eq (t : RT) : hashVT t = JaN 32 t.view := by rw [hashVT, hid_eq]
theorem JcZ : ∀ (n : Nat) (s : RS), (JaN n s).length = n
 | 0, _ => rfl
 | n + 1, s => by simp [JaN, JcZ n]
@[simp] theorem hashV_length (s : RS) : (hashV s).length = 32 := by rw [hashV_eq]; exact JcZ 32 s
theorem Jgi : ∀ (n : Nat) (t : RT), (Jeq n t).view = Jep n t.view
 | 0, _ => rfl
 | n + 1, t => by simp only [Jeq, Jep, Jgi n, YR]
@[simp] theorem hashT_view (t : RT) : (hashT t).view = hashS t.view := by rw [hashT_eq, hashS_eq, Jgi]
@[simp] theorem hashVT_val (t : RT) : hashVT t = hashV t.view := by rw [hashVT_eq, hashV_eq]
theorem Jon : ∀ (n : Nat) {t : RT}, okT t = true -> okT (Jeq n t) = true
 | 0, _, h => h
 | n + 1, t, h => Jon n (ZZ h 1)
@[simp] theorem Jr5 {t : RT} (h : okT t = true) : okT (hashT t) = true := by rw [hashT_eq]; exact Jon 32 h
theorem Jhz : ∀ (n : Nat) {s : RS}, byB s.b = true -> byB (Jep n s).b = true
 | 0, _, h => h
 | n + 1, s, h => Jhz n (YQ h 1)
theorem JyH (f : Nat) (k0 : Bool -> Bool -> List PV -> Int -> Int -> List PV -> List PV -> OR) (z fl : Bool) (h0 : List PV) : ∀ (d i n : Nat) (t : RT) (L : List Int), i + d = 32 -> d < n -> okT t = true -> L.length = 32 ->
  Gx f k0 n (i : Int) z fl t.B t.P t.e h0 (pu .u8 L) = k0 z fl (Jeq d t).B (Jeq d t).P (Jeq d t).e h0 (pu .u8 (L.take i ++ JaN d t.view))
 | 0, i, n + 1, t, L, h, hn, hk, hL => by
   obtain rfl : i = 32 := by omega
   simp only [Gx, JaI, Jeq, JaN, List.append_nil]
   rw [List.take_of_length_le (by omega)]
   exact Jd (by decide)
 | d + 1, i, n + 1, t, L, h, hn, hk, hL => by
   have g1 := tI i
   have w1 := wI (i := i) (by omega)
   simp only [Gx, JaI, g1, w1, Xq]
   refine (Ja (by simp; omega)).trans ((Ja hk).trans ((Ja (by simp; omega)).trans ?_))
   have := JyH f k0 z fl h0 d (i + 1) n (QY 1 t) (L.set i (IntKind.u8.wrap (Qm 1 t))) (by omega) (by omega) (ZZ hk 1) (by simpa using hL)
   rw [Xn]
   refine this.trans ?_
   have hset : (L.set i (IntKind.u8.wrap (Qm 1 t))).take (i + 1) = L.take i ++ [IntKind.u8.wrap (Qm 1 t)] := by
    rw [List.take_add_one, List.take_set_of_le (Nat.le_refl i), List.getElem?_set_self (by omega)]; rfl
   rw [hset, YR, Jdp]
   simp only [Jeq, JaN, List.append_assoc, List.cons_append, List.nil_append]
def Jlv : JA
 | [.ptr 0 []], [.box false 135 (.st 135 [.ro 5 z f B, .sc (.int .i64 P), .sc (.int .i64 e)])], k =>
  bif okT ⟨B, P, e⟩ then k ⟨.ar 37 (pu .u8 (hashVT ⟨B, P, e⟩)), [rfP z f (hashT ⟨B, P, e⟩)], []⟩ else none
 | _, _, _ => none
def JGj : Sig := { own := [], run := Jlv }
theorem JGk : Jc tau Try.prog 45 JGj := Jc.mk' fun xs es k res hl hr => by
 change Jlv xs es k = some res at hr
 unfold Jlv at hr
 split at hr
 · rename_i z f B P e
   obtain ⟨hc, hr⟩ := Jw hr
   have hg : g45 40 z f B P e k = some res := by
    have h := JyH 40 (fun x0_0 x1_0 x2_0 JR x4_0 x5_0 x6_0 => k (Res.mk (.ar 37 x6_0) [.box false 135 (.st 135 [.ro 5 x0_0 x1_0 x2_0, .sc (.int .i64 JR), .sc (.int .i64 x4_0)])] [])) z f (pu .u8 (List.replicate 32 0)) 32 0 40 ⟨B, P, e⟩ (List.replicate 32 0) (by omega) (by omega) hc (by simp)
    rw [List.take_zero, List.nil_append] at h
    rw [hashVT_eq, hashT_eq] at hr
    exact Eq.trans h hr
   exact J6 Jn JrP Jo JFZ JF0 (JvP (Jem 40)) [.ro] 1 0 (JL0 40) hl rfl ((e45 40 z f B P e k).trans hg)
 · cases hr
def fS : Nat -> RS -> RS
 | 0, s => s
 | 1, s => Jb 1 s
 | n + 2, s => Jb 8 (fS (n + 1) s)
def Z5 (c : Int) (s : RS) : RS := ⟨s.b, bif s.e == 0 then c else s.e⟩
def txR : Nat -> RS -> RS
 | 0, s => s
 | n + 1, s => txR n (Qe s)
def JBi (s : RS) : Int := Jz 1 (fS 13 s)
def JGl (s : RS) : Nat := bif decide (JBi s > 4) then 0 else (JBi s).toNat
def JGm (s : RS) : RS := bif decide (JBi s > 4) then Z5 4 (Jb 1 (fS 13 s)) else Jb 1 (fS 13 s)
def JBj : RS -> List Int := hid fun s => hashV (txR (JGl s) (JGm s))
theorem Jv1 (s : RS) : JBj s = hashV (txR (JGl s) (JGm s)) := by rw [JBj, hid_eq]
@[simp] theorem JyI (s : RS) : (JBj s).length = 32 := by rw [Jv1]; exact hashV_length _
theorem Ql {s : RS} (h : byB s.b = true) (n : Nat) : byB (Jb n s).b = true := by rw [XV]; exact YQ h n
theorem Joo {s : RS} (h : byB s.b = true) : byB (Qe s).b = true := by rw [Jdo]; exact YQ (YQ h 2) _
theorem Z6 : ∀ l : List PV, (JY l).length = l.length
 | [] => rfl
 | p :: ps => by simp [JY, Z6 ps]
theorem Jgj {s : RS} (h : byB s.b = true) : (JU s).size <= 65535 := by
 rw [Jhg]
 show (JY _).length <= _
 rw [Z6]
 have h1 := WY (WN 2 s).toNat (Qk 2 s)
 have h2 := XW h (n := 2) (Nat.le_refl 2)
 omega
theorem Yn (t : ByteArray) : (Ji t).length = t.size := by simp only [Ji, List.length_map, Array.length_toList]; rfl
def XZ (x m : Int) : Bool := decide (x >= 0) && decide (x <= m)
def JL9 (fr to wh wn cd cu ve co ad au su er : Int) : Bool := XZ fr 2 && (XZ to 2 && (!(fr == to) && (XZ wh 2 && (XZ wn 99 && (XZ cd 2 && (XZ cu 7 && (XZ ad 2 && (XZ au 7 && (XZ ve 1073741824 && (XZ co 1073741824 && (XZ su 1073741824 && XZ er 255)))))))))))
def JMa (kd fr to wh wn cd cu ve co ad au su er : Int) : Int := bif XZ (IntKind.i64.wrap (kd - 1)) 4 then (bif JL9 fr to wh wn cd cu ve co ad au su er then 0 else 1) else 3
structure C13 where
 (kd fr to wh wn cd cu ve co ad au su er : Int)
def chk : C13 -> Int := hid fun c => JMa c.kd c.fr c.to c.wh c.wn c.cd c.cu c.ve c.co c.ad c.au c.su c.er
def JjD (l : List PV) (d : Int) : PV := bif XZ d 2 then l.getD d.toNat .top else .ro 5 true true []
structure K3 where
 (l : List PV) (d : Int)
def JhA : K3 -> List PV := hid fun c => (JjD c.l c.d).els
theorem Jop (c : K3) : JhA c = (JjD c.l c.d).els := by rw [JhA, hid_eq]
def JGn : Fns := F0
theorem Jv2 : Jq tau Try.prog JGn := Jt
def Jr6 : An := (.seq .leaf (.seq (.seq .leaf (.cond .leaf .leaf)) (.seq (.seq .leaf (.seq .leaf (.cond .leaf .leaf))) (.seq .leaf .leaf))))
def JGo (f : Nat) (n : Int) (k : KR) : OR := bif decide (n < 0) then none else bif decide (IntKind.i64.wrap (n - IntKind.i64.wrap (zi 0 - zi 0)) > 0) then bif decide (0 <= IntKind.i64.wrap (n - IntKind.i64.wrap (zi 0 - zi 0))) && Je (IntKind.i64.wrap (n - IntKind.i64.wrap (zi 0 - zi 0))).toNat 1 && true then k (Res.mk (.ow 5 16 [] 0 0 none) [] [.vec false 5 (IntKind.i64.wrap (n - IntKind.i64.wrap (zi 0 - zi 0)) == 0) (List.replicate (IntKind.i64.wrap (n - IntKind.i64.wrap (zi 0 - zi 0))).toNat (.sc (.int .u8 0)))]) else none else k (Res.mk (.ro 5 true true []) [] [])
theorem JMb (f : Nat) (n : Int) (k : KR) : JK tau JGn Try.f114 (Try.f114.body.get!) Jr6 [] 0 [.ro 5 true true [], .sc (.int .i64 n)] [] k = JGo f n k := by kernel_rfl
theorem JGp (f : Nat) : ∀ q ∈ Jg (Try.f114.body.get!) Jr6, q.Ok tau Try.prog 0 := Jx (by kernel_rfl)
theorem JyJ : Try.prog.funcs[114]? = some Try.f114 := by kernel_rfl
theorem JyK : Try.f114.body = some (Try.f114.body.get!) := by kernel_rfl
theorem JGq : Enters Try.prog 114 := enters_of JyJ (by kernel_rfl) JyK
def Jlw : JA
 | [.ro 5 true true [], .sc (.int .i64 n)], [], k => JGo 0 n k
 | _, _, _ => none
def JGr : Sig := { own := [], run := Jlw }
theorem JGs : Jc tau Try.prog 114 JGr := JP Jn Jv2 Jo JyJ JyK Jr6 [] 0 [] Jlw (JGp 0) fun xs es k res hr => by
 unfold Jlw at hr
 split at hr
 · exact ⟨rfl, 0, (JMb 0 _  _).trans hr⟩
 · cases hr
def N79 : Nat := 36
def F79 : Fns := Js 114 JGr (F0)
theorem Jlx : Jq tau Try.prog F79 := (Jt).add JGs JGq
def Joq : Code := Qj (Try.f79.body.get!) [1, 1, 0, 1, 0, 0]
def Jer : Nm := [(0, .any), (3, .any), (9, .any), (10, .any), (11, .any)]
def Jly : Nm := [(0, .any), (3, .any)]
def Jr7 : An := (.seq .leaf (.seq (.cond .leaf .leaf) (.seq (.block none (.seq .leaf (.seq .leaf (.seq .leaf (.cond .leaf .leaf))))) .leaf)))
def Jgk : Code := Qj (Try.f79.body.get!) [1, 1, 1, 1, 0, 1, 0, 0]
def Zg : Nm := [(6, .own), (25, .any), (26, .any), (27, .any)]
def Z7 : Nm := [(6, .any)]
def JjE : An := (.seq .leaf (.seq (.cond .leaf .leaf) (.seq (.block none (.seq .leaf .leaf)) .leaf)))
def Jv3 (r0 : Qz) (r1 : Qz) : An := (.seq .leaf (.seq .leaf (.seq (.seq .leaf (.block none (.sum Jer N79 r0))) (.seq .leaf (.seq (.seq .leaf (.block none (.sum Zg N79 r1))) (.seq .leaf .leaf))))))
abbrev Jr8 := Bool -> Bool -> List PV -> Int -> Bool -> Bool -> List PV -> Int -> Int -> OR
def JaO (f : Nat) (rc : Jr8) (k0 : Bool -> Bool -> List PV -> Int -> OR) (v0 v1 : Bool) (v2 : List PV) (v3 : Int) (v4 v5 : Bool) (v6 : List PV) (v7 v8 : Int) : OR := bif decide (v8 < v7) then bif decide (0 <= v8) && decide (v8 < zi v6.length) && PV.isRo 5 (v6.getD v8.toNat PV.top) && true then bif decide (IntKind.i64.wrap (v3 + zi (v6.getD v8.toNat PV.top).els.length) < 0) then none else rc v0 v1 v2 (IntKind.i64.wrap (v3 + zi (v6.getD v8.toNat PV.top).els.length)) v4 v5 v6 v7 (IntKind.i64.wrap (v8 + 1)) else none else k0 v0 v1 v2 v3
def Gy (f : Nat) (k0 : Bool -> Bool -> List PV -> Int -> OR) : Nat -> Jr8
 | 0 => fun _ _ _ _ _ _ _ _ _ => none
 | n + 1 => JaO f (Gy f k0 n) k0
def JaP (k : Kont) := fun x0 x1 x2 x3 => k (Ex.exit 0) (Jj Jly N79 [.ro 29 x0 x1 x2, .sc (.int .i64 x3)] [])
def Jlz (f : Nat) (k : Kont) (n : Nat) (v0 v1 : Bool) (v2 : List PV) (v3 : Int) (v4 v5 : Bool) (v6 : List PV) (v7 v8 : Int) : OR := Jy tau 0 Jer (fun s k => ev tau F79 0 0 Joq (Jr7 ) s k) n (Jj Jer N79 [.ro 29 v0 v1 v2, .sc (.int .i64 v3), .ro 29 v4 v5 v6, .sc (.int .i64 v7), .sc (.int .i64 v8)] []) (JI tau 0 Jly k)
theorem Jv4 (f : Nat) (k : Kont) (n : Nat) : Jlz f k (n + 1) = JaO f (Jlz f k n) (JaP k) := by kernel_rfl
theorem Jor (f : Nat) (k : Kont) : ∀ n, Jlz f k n = Gy f (JaP k) n
 | 0 => rfl
 | n + 1 => (Jv4 f k n).trans (congrArg (fun r => JaO f r (JaP k)) (Jor f k n))
def Jes (f : Nat) : List PV -> List (Nat × Ent) -> Kont -> OR
 | [.ro 29 v0 v1 v2, .sc (.int .i64 v3), .ro 29 v4 v5 v6, .sc (.int .i64 v7),
 .sc (.int .i64 v8)], [], k => Gy f (JaP k) f v0 v1 v2 v3 v4 v5 v6 v7 v8
 | _, _, _ => none
theorem JBk (f : Nat) : Jg Joq Jr7 = [] := by kernel_rfl
theorem JBl (f : Nat) : (Item.l Joq Jer N79 (Jes f)).Ok tau Try.prog 0 := Ju Jn Jlx Jo (x := Jr7) (nm2 := Jly) (Jk _ _ (by rw [JBk f]; intro q hq; cases hq)) fun vs hp k res hr => by
 unfold Jes at hr
 split at hr
 · rw [← Jor f] at hr; exact ⟨f, 0, hr⟩
 · cases hr
def JaQ (f : Nat) (rc : Nat -> Bool -> Bool -> List PV -> Int -> Int -> Bool -> List PV -> OR) (k0 : Nat -> Bool -> List PV -> OR) (v0 : Nat) (v1 v2 : Bool) (v3 : List PV) (v4 v5 : Int) (v6 : Bool) (v7 : List PV) : OR := bif decide (v5 < v4) then bif decide (0 <= v5) && decide (v5 < zi v3.length) && PV.isRo 5 (v3.getD v5.toNat PV.top) && true then bif Je (v0 + (v3.getD v5.toNat PV.top).els.length) 1 && true then rc (v0 + (v3.getD v5.toNat PV.top).els.length) v1 v2 v3 v4 (IntKind.i64.wrap (v5 + 1)) (v6 && (v3.getD v5.toNat PV.top).els.isEmpty) (List.take v0 v7 ++ (v3.getD v5.toNat PV.top).els) else none else none else k0 v0 v6 v7
def Yw (f : Nat) (k0 : Nat -> Bool -> List PV -> OR) : Nat -> Nat -> Bool -> Bool -> List PV -> Int -> Int -> Bool -> List PV -> OR
 | 0, _, _, _, _, _, _, _, _ => none
 | n + 1, v0, v1, v2, v3, v4, v5, v6, v7 => JaQ f (Yw f k0 n) k0 v0 v1 v2 v3 v4 v5 v6 v7
theorem Jv5 (f : Nat) (k : Kont) (n v0 : Nat) (v1 v2 : Bool) (v3 : List PV) (v4 v5 : Int) (v6 : Bool) (v7 : List PV) : Jy tau 0 Zg (fun s k => ev tau F79 0 0 Jgk (JjE ) s k) (n + 1) (Jj Zg N79 [.ow 5 592 [] 0 v0 none, .ro 29 v1 v2 v3, .sc (.int .i64 v4), .sc (.int .i64 v5)] [(592, .vec false 5 v6 v7)]) (JI tau 0 Z7 k) = JaQ f (fun v0 v1 v2 v3 v4 v5 v6 v7 => Jy tau 0 Zg (fun s k => ev tau F79 0 0 Jgk (JjE ) s k) n (Jj Zg N79 [.ow 5 592 [] 0 v0 none, .ro 29 v1 v2 v3, .sc (.int .i64 v4), .sc (.int .i64 v5)] [(592, .vec false 5 v6 v7)]) (JI tau 0 Z7 k)) (fun x0 x1 x2 => k (Ex.exit 2) (Jj Z7 N79 [.ow 5 592 [] 0 x0 none] [(592, .vec false 5 x1 x2)])) v0 v1 v2 v3 v4 v5 v6 v7 := by kernel_rfl
theorem Jos (f : Nat) (k : Kont) : ∀ (n v0 : Nat) (v1 v2 : Bool) (v3 : List PV) (v4 v5 : Int) (v6 : Bool) (v7 : List PV), Jy tau 0 Zg (fun s k => ev tau F79 0 0 Jgk (JjE ) s k) n (Jj Zg N79 [.ow 5 592 [] 0 v0 none, .ro 29 v1 v2 v3, .sc (.int .i64 v4), .sc (.int .i64 v5)] [(592, .vec false 5 v6 v7)]) (JI tau 0 Z7 k) = Yw f (fun x0 x1 x2 => k (Ex.exit 2) (Jj Z7 N79 [.ow 5 592 [] 0 x0 none] [(592, .vec false 5 x1 x2)])) n v0 v1 v2 v3 v4 v5 v6 v7 | 0, _, _, _, _, _, _, _, _ => rfl | n + 1, v0, v1, v2, v3, v4, v5, v6, v7 => (Jv5 f k n v0 v1 v2 v3 v4 v5 v6 v7).trans (congrArg (fun r => JaQ f r (fun x0 x1 x2 => k (Ex.exit 2) (Jj Z7 N79 [.ow 5 592 [] 0 x0 none] [(592, .vec false 5 x1 x2)])) v0 v1 v2 v3 v4 v5 v6 v7) (by funext v0 v1 v2 v3 v4 v5 v6 v7; exact Jos f k n v0 v1 v2 v3 v4 v5 v6 v7))
def Jet (f : Nat) : List PV -> List (Nat × Ent) -> Kont -> OR
 | [.ow 5 592 [] 0 v0 none, .ro 29 v1 v2 v3, .sc (.int .i64 v4),
 PV.sc
  (Value.int IntKind.i64
   v5)], [(592, .vec false 5 v6 v7)], k => Yw f (fun x0 x1 x2 => k (Ex.exit 2) (Jj Z7 N79 [.ow 5 592 [] 0 x0 none] [(592, .vec false 5 x1 x2)])) f v0 v1 v2 v3 v4 v5 v6 v7
 | _, _, _ => none
theorem JBm (f : Nat) : Jg Jgk JjE = [] := by kernel_rfl
theorem JBn (f : Nat) : (Item.l Jgk Zg N79 (Jet f)).Ok tau Try.prog 0 := Ju Jn Jlx Jo (x := JjE) (nm2 := Z7) (Jk _ _ (by rw [JBm f]; intro q hq; cases hq)) fun vs hp k res hr => by
 unfold Jet at hr
 split at hr
 · exact ⟨f, 0, (Jos f _ f _ _ _ _ _ _ _ _ ).trans hr⟩
 · cases hr
def g79 (f : Nat) (y0 y1 : Bool) (slices : List PV) (k : KR) : OR := Gy f (fun x0_0 x1_0 x2_0 JR => bif decide (JR < 0) then none else bif decide (IntKind.i64.wrap (JR - IntKind.i64.wrap (zi 0 - zi 0)) > 0) then bif decide (0 <= IntKind.i64.wrap (JR - IntKind.i64.wrap (zi 0 - zi 0))) && Je (IntKind.i64.wrap (JR - IntKind.i64.wrap (zi 0 - zi 0))).toNat 1 && true then Yw f (fun x0_1 x1_1 x2_1 => k (Res.mk (.ow 5 16 [] 0 x0_1 none) [] [.vec false 5 x1_1 x2_1])) f (0) x0_0 x1_0 x2_0 (zi x2_0.length) (0) (IntKind.i64.wrap (JR - IntKind.i64.wrap (zi 0 - zi 0)) == 0) (List.replicate (IntKind.i64.wrap (JR - IntKind.i64.wrap (zi 0 - zi 0))).toNat (.sc (.int .u8 0))) else none else Yw f (fun x0_2 x1_2 x2_2 => k (Res.mk (.ow 5 16 [] 0 x0_2 none) [] [.vec false 5 x1_2 x2_2])) f (0) x0_0 x1_0 x2_0 (zi x2_0.length) (0) true ([])) f y0 y1 slices (0) y0 y1 slices (zi slices.length) (0)
theorem e79 (f : Nat) (y0 y1 : Bool) (slices : List PV) (k : KR) : JK tau F79 Try.f79 (Try.f79.body.get!) (Jv3 (Jes f) (Jet f)) [] 0 [.ro 29 y0 y1 slices] [] k = g79 f y0 y1 slices k := by kernel_rfl
theorem JMc (f : Nat) : Jg (Try.f79.body.get!) (Jv3 (Jes f) (Jet f)) = [.l Joq Jer N79 (Jes f), .l Jgk Zg N79 (Jet f)] := by kernel_rfl
theorem JMd (f : Nat) : ∀ q ∈ Jg (Try.f79.body.get!) (Jv3 (Jes f) (Jet f)), q.Ok tau Try.prog 0 := by rw [JMc f]; exact JL (JBl f) (JL (JBn f) (fun _ h => nomatch h))
theorem JGt : Try.prog.funcs[79]? = some Try.f79 := by kernel_rfl
theorem JGu : Try.f79.body = some (Try.f79.body.get!) := by kernel_rfl
theorem JBo : Enters Try.prog 79 := enters_of JGt (by kernel_rfl) JGu
def JH (l : List PV) : List PV := (l.map PV.els).flatten
@[simp] theorem JaR : JH [] = [] := rfl
@[simp] theorem XK (p : PV) (l : List PV) : JH (p :: l) = p.els ++ JH l := by simp [JH]
theorem Jc0 (a b : List PV) : JH (a ++ b) = JH a ++ JH b := by simp [JH]
theorem Jeu (l : List PV) (i : Nat) (h : i < l.length) : l.take (i + 1) = l.take i ++ [l.getD i .top] := by
 rw [List.take_add_one, List.getD_eq_getElem?_getD, List.getElem?_eq_getElem h]; rfl
theorem Jev (l : List PV) (i : Nat) (h : i < l.length) : l.drop i = l.getD i .top :: l.drop (i + 1) := by
 rw [List.drop_eq_getElem_cons h, List.getD_eq_getElem?_getD, List.getElem?_eq_getElem h]; rfl
theorem XL (l : List PV) (i : Nat) (h : i < l.length) : JH (l.take (i + 1)) = JH (l.take i) ++ (l.getD i .top).els := by
 rw [Jeu l i h, Jc0, XK, JaR, List.append_nil]
theorem XA (l : List PV) (i : Nat) : (JH (l.take i)).length <= (JH l).length := by
 have : JH l = JH (l.take i) ++ JH (l.drop i) := by rw [← Jc0, List.take_append_drop]
 rw [this, List.length_append]; omega
theorem Jgl {l : List PV} (h : l.all (PV.isRo 5) = true) {i : Nat} (hi : i < l.length) : (l.getD i .top).isRo 5 = true := by
 rw [List.getD_eq_getElem?_getD, List.getElem?_eq_getElem hi]
 exact List.all_eq_true.1 h _ (List.getElem_mem hi)
theorem Jc1 {α : Type} (a b : List α) : (a ++ b).isEmpty = (a.isEmpty && b.isEmpty) := by cases a <;> rfl
theorem JyL (f : Nat) (k0 : Bool -> Bool -> List PV -> Int -> OR) (a b : Bool) (c : List PV) (nl fl : Bool) (l : List PV) (hl : l.all (PV.isRo 5) = true) (hs : (JH l).length <= 140737488355328) (hn : l.length <= 140737488355328) : ∀ (d i n : Nat), i + d = l.length -> d < n ->
  Gy f k0 n a b c ((JH (l.take i)).length : Int) nl fl l (l.length : Int) (i : Int) = k0 a b c ((JH l).length : Int)
 | 0, i, n + 1, h, hd => by
   obtain rfl : i = l.length := by omega
   simp only [Gy, JaO]
   exact (Jd (by simp)).trans (by rw [List.take_length])
 | d + 1, i, n + 1, h, hd => by
   have hle := XA l (i + 1)
   have hadd : (JH (l.take (i + 1))).length = (JH (l.take i)).length + (l.getD i .top).els.length := by rw [XL l i (by omega), List.length_append]
   have h1 := wI (i := i) (by omega)
   have h2 : IntKind.i64.wrap (((JH (l.take i)).length : Int) + ((l.getD i .top).els.length : Int)) = ((JH (l.take (i + 1))).length : Int) := by rw [wrap_i64 (by omega) (by omega)]; omega
   simp only [Gy, JaO, zi, Int.toNat_natCast, h1, h2]
   refine (Ja (by simp <;> omega)).trans ?_
   refine (Ja (by rw [Jgl hl (by omega)]; simp; omega)).trans ?_
   refine (Jd (by simp <;> omega)).trans ?_
   exact JyL f k0 a b c nl fl l hl hs hn d (i + 1) n (by omega) (by omega)
theorem Jr9 (f : Nat) (k0 : Nat -> Bool -> List PV -> OR) (nl fl : Bool) (l : List PV) (hl : l.all (PV.isRo 5) = true) (hs : (JH l).length <= 140737488355328) (hn : l.length <= 140737488355328) : ∀ (d i n : Nat) (z : Bool) (v : List PV), i + d = l.length -> d < n -> v.take (JH (l.take i)).length = JH (l.take i) -> (d = 0 -> v = JH l) ->
  Yw f k0 n (JH (l.take i)).length nl fl l (l.length : Int) (i : Int) z v = k0 (JH l).length (z && (JH (l.drop i)).isEmpty) (JH l)
 | 0, i, n + 1, z, v, h, hd, hv, h0 => by
   obtain rfl : i = l.length := by omega
   simp only [Yw, JaQ]
   refine (Jd (by simp)).trans ?_
   rw [List.take_length, h0 rfl, List.drop_length]; simp
 | d + 1, i, n + 1, z, v, h, hd, hv, h0 => by
   have hle := XA l (i + 1)
   have hadd : (JH (l.take (i + 1))).length = (JH (l.take i)).length + (l.getD i .top).els.length := by rw [XL l i (by omega), List.length_append]
   have h1 := wI (i := i) (by omega)
   simp only [Yw, JaQ, zi, Int.toNat_natCast, h1, hv]
   refine (Ja (by simp <;> omega)).trans ?_
   refine (Ja (by rw [Jgl hl (by omega)]; simp; omega)).trans ?_
   refine (Ja (by simp only [Je, Bool.and_true, decide_eq_true_eq]; omega)).trans ?_
   have := Jr9 f k0 nl fl l hl hs hn d (i + 1) n (z && (l.getD i .top).els.isEmpty) (JH (l.take (i + 1))) (by omega) (by omega) (List.take_length) (fun hd0 => by rw [show i + 1 = l.length from by omega, List.take_length])
   rw [hadd, XL l i (by omega)] at this
   rw [this, Jev l i (by omega), XK, Jc1, Bool.and_assoc]
def JlA : JA
 | [.ro 29 nl fl l], [], k => bif l.all (PV.isRo 5) && (decide ((JH l).length <= 140737488355328) && decide (l.length <= 140737488355328)) then k ⟨.ow 5 16 [] 0 (JH l).length none, [], [.vec false 5 (JH l).isEmpty (JH l)]⟩ else none
 | _, _, _ => none
def Jv6 : Sig := { own := [], run := JlA }
theorem JBp (nl fl : Bool) (l : List PV) (k : KR) (hl : l.all (PV.isRo 5) = true) (hs : (JH l).length <= 140737488355328) (hn : l.length <= 140737488355328) :
  g79 (l.length + 1) nl fl l k = k ⟨.ow 5 16 [] 0 (JH l).length none, [], [.vec false 5 (JH l).isEmpty (JH l)]⟩ := by
 have h0 := JyL (l.length + 1) (fun x0_0 x1_0 x2_0 JR =>
  bif decide (JR < 0) then
   none
  else bif decide (IntKind.i64.wrap (JR - IntKind.i64.wrap (zi 0 - zi 0)) > 0) then
   bif decide (0 <= IntKind.i64.wrap (JR - IntKind.i64.wrap (zi 0 - zi 0))) && Je (IntKind.i64.wrap (JR - IntKind.i64.wrap (zi 0 - zi 0))).toNat 1 && true then
    Yw (l.length + 1) (fun x0_1 x1_1 x2_1 =>
     k (Res.mk (PV.ow 5 16 [] 0 x0_1 none) []
      [Ent.vec false 5 x1_1
       x2_1])) (l.length + 1) (0) x0_0 x1_0 x2_0 (zi
     x2_0.length) (0) (IntKind.i64.wrap (JR - IntKind.i64.wrap (zi 0 - zi 0)) ==
     0) (List.replicate (IntKind.i64.wrap (JR - IntKind.i64.wrap (zi 0 - zi 0))).toNat (PV.sc (Value.int IntKind.u8 0)))
   else none
  else Yw (l.length + 1) (fun x0_2 x1_2 x2_2 =>
   k (Res.mk (PV.ow 5 16 [] 0 x0_2 none) [] [Ent.vec false 5 x1_2 x2_2])) (l.length + 1) (0) x0_0 x1_0 x2_0 (zi x2_0.length) (0) true ([])) nl fl l nl fl l hl hs hn l.length 0 (l.length + 1) (by omega) (by omega)
 refine h0.trans ?_
 have hw : IntKind.i64.wrap (((JH l).length : Int) - IntKind.i64.wrap (zi 0 - zi 0)) = ((JH l).length : Int) := by
  have : IntKind.i64.wrap (zi 0 - zi 0) = 0 := by decide
  rw [this, wrap_i64 (by omega) (by omega)]; omega
 simp only [hw]
 refine (Jd (by simp <;> omega)).trans ?_
 cases he : (JH l).isEmpty with
 | true =>
  have he' : JH l = [] := by simpa using he
  refine (Jd (by simp [he'])).trans ?_
  have := Jr9 (l.length + 1) (fun x0_2 x1_2 x2_2 => k (Res.mk (PV.ow 5 16 [] 0 x0_2 none) [] [Ent.vec false 5 x1_2 x2_2])) nl fl l hl hs hn l.length 0 (l.length + 1) true [] (by omega) (by omega) (by simp) (fun _ => he'.symm)
  refine this.trans ?_
  simp [he']
 | false =>
  have he' : JH l ≠ [] := by simpa using he
  have hpos : 0 < (JH l).length := List.length_pos_iff.2 he'
  have hl0 : l.length ≠ 0 := by
   intro h; rw [List.length_eq_zero_iff] at h; subst h; simp at he'
  refine (Ja (by simp <;> omega)).trans ?_
  refine (Ja (by simp [Je] <;> omega)).trans ?_
  have := Jr9 (l.length + 1) (fun x0_2 x1_2 x2_2 => k (Res.mk (PV.ow 5 16 [] 0 x0_2 none) [] [Ent.vec false 5 x1_2 x2_2])) nl fl l hl hs hn l.length 0 (l.length + 1) (((JH l).length : Int) == 0) (List.replicate (((JH l).length : Int)).toNat (PV.sc (Value.int IntKind.u8 0))) (by omega) (by omega) (by simp) (fun h => absurd h hl0)
  refine this.trans ?_
  have hz : (((JH l).length : Int) == 0) = false := by simp [he']
  rw [hz]; rfl
theorem Jsa : Jc tau Try.prog 79 Jv6 := Jg7 Jn Jlx Jo JGt JGu (fun n => Jv3 (Jes n) (Jet n)) [] 0 [] JlA (fun n => JMd n) fun xs es k res hr => by
 unfold JlA at hr
 split at hr
 · rename_i nl fl l
   obtain ⟨hc, hr⟩ := Jw hr
   simp only [Bool.and_eq_true, decide_eq_true_eq] at hc
   refine ⟨rfl, l.length + 1, 0, (e79 _ _ _ _ _).trans ?_⟩
   rw [JBp _ _ _ _ hc.1 hc.2.1 hc.2.2]; exact hr
 · cases hr
def JyM : Fns := Js 79 Jv6 (F0)
theorem Jsb : Jq tau Try.prog JyM := (Jt).add Jsa JBo
def JlB : An := (.seq .leaf (.seq .leaf .leaf))
def Jsc (f : Nat) (b_z b_f : Bool) (b : List PV) (n : Int) (k : KR) : OR := bif decide ((JH [.ro 5 b_z b_f b, .ro 5 false false [.sc (.int .u8 (IntKind.u8.wrap n))]]).length <= 140737488355328) && true then k (Res.mk (.ow 5 16 [] 0 (JH [.ro 5 b_z b_f b, .ro 5 false false [.sc (.int .u8 (IntKind.u8.wrap n))]]).length none) [] [.vec false 5 (JH [.ro 5 b_z b_f b, .ro 5 false false [.sc (.int .u8 (IntKind.u8.wrap n))]]).isEmpty (JH [.ro 5 b_z b_f b, .ro 5 false false [.sc (.int .u8 (IntKind.u8.wrap n))]])]) else none
theorem JGv (f : Nat) (b_z b_f : Bool) (b : List PV) (n : Int) (k : KR) : JK tau JyM Try.f130 (Try.f130.body.get!) JlB [] 0 [.ro 5 b_z b_f b, .sc (.int .i64 n)] [] k = Jsc f b_z b_f b n k := by kernel_rfl
theorem JBq (f : Nat) : ∀ q ∈ Jg (Try.f130.body.get!) JlB, q.Ok tau Try.prog 0 := Jx (by kernel_rfl)
theorem JBr : Try.prog.funcs[130]? = some Try.f130 := by kernel_rfl
theorem JBs : Try.f130.body = some (Try.f130.body.get!) := by kernel_rfl
def JGw : Fns := Js 79 Jv6 (F0)
theorem Jv7 : Jq tau Try.prog JGw := (Jt).add Jsa JBo
def Jsd : An := (.seq .leaf (.seq .leaf (.seq .leaf .leaf)))
abbrev VN (s : ByteArray) := (s.extract 0 (Qh (zi s.size) 65535).toNat)
abbrev JaS (b_z : Bool) (b_f : Bool) (b : List PV) (s : ByteArray) := (JH [PV.ro 5 b_z b_f b, PV.ro 5 false false [PV.sc (.int .u8 (IntKind.u8.wrap (zi (VN s).size))), PV.sc (.int .u8 (IntKind.u8.wrap (JX IntKind.i64 (zi (VN s).size) 8)))], PV.ro 5 false false (List.take (VN s).size (Ji (VN s)))])
def JBt (f : Nat) (b_z b_f : Bool) (b : List PV) (s : ByteArray) (k : KR) : OR := bif decide (0 <= Qh (zi s.size) 65535) && true && decide ((Qh (zi s.size) 65535).toNat <= s.size) && true then bif Je (VN s).size 1 && true then bif decide ((JaS b_z b_f b s).length <= 140737488355328) && true then k (Res.mk (.ow 5 16 [] 0 (JaS b_z b_f b s).length none) [] [.vec false 5 (JaS b_z b_f b s).isEmpty (JaS b_z b_f b s)]) else none else none else none
theorem JMe (f : Nat) (b_z b_f : Bool) (b : List PV) (s : ByteArray) (k : KR) : JK tau JGw Try.f92 (Try.f92.body.get!) Jsd [] 0 [.ro 5 b_z b_f b, .sc (.string s)] [] k = JBt f b_z b_f b s k := by kernel_rfl
theorem JGx (f : Nat) : ∀ q ∈ Jg (Try.f92.body.get!) Jsd, q.Ok tau Try.prog 0 := Jx (by kernel_rfl)
theorem JGy : Try.prog.funcs[92]? = some Try.f92 := by kernel_rfl
theorem JGz : Try.f92.body = some (Try.f92.body.get!) := by kernel_rfl
theorem JGA : Try.prog.funcs[130]? = some Try.f130 := by kernel_rfl
theorem JGB : Try.f130.body = some (Try.f130.body.get!) := by kernel_rfl
theorem JGC : Enters Try.prog 130 := enters_of JGA (by kernel_rfl) JGB
theorem JMf : Try.prog.funcs[92]? = some Try.f92 := by kernel_rfl
theorem JMg : Try.f92.body = some (Try.f92.body.get!) := by kernel_rfl
theorem JGD : Enters Try.prog 92 := enters_of JMf (by kernel_rfl) JMg
def JGE : Fns := F0
theorem Jv8 : Jq tau Try.prog JGE := Jt
def Jse : An := (.seq .leaf (.seq (.seq .leaf (.cond (.seq .leaf .leaf) .leaf)) (.seq .leaf .leaf)))
def JGF (f : Nat) (s_z s_f : Bool) (s : List PV) (k : KR) : OR := bif s_z then k (Res.mk (.ro 5 true true []) [] []) else bif Je (0 + s.length) 1 && true then k (Res.mk (.ow 5 16 [] 0 (0 + s.length) none) [] [.vec false 5 false s]) else none
theorem JMh (f : Nat) (s_z s_f : Bool) (s : List PV) (k : KR) : JK tau JGE Try.f76 (Try.f76.body.get!) Jse [] 0 [.ro 5 s_z s_f s] [] k = JGF f s_z s_f s k := by kernel_rfl
theorem JGG (f : Nat) : ∀ q ∈ Jg (Try.f76.body.get!) Jse, q.Ok tau Try.prog 0 := Jx (by kernel_rfl)
theorem JyN : Try.prog.funcs[76]? = some Try.f76 := by kernel_rfl
theorem JyO : Try.f76.body = some (Try.f76.body.get!) := by kernel_rfl
theorem JyP : Enters Try.prog 76 := enters_of JyN (by kernel_rfl) JyO
def JlC : JA
 | [.ro 5 s_z s_f s], [], k => JGF 0 s_z s_f s k
 | _, _, _ => none
def JBu : Sig := { own := [], run := JlC }
theorem JyQ : Jc tau Try.prog 76 JBu := JP Jn Jv8 Jo JyN JyO Jse [] 0 [] JlC (JGG 0) fun xs es k res hr => by
 unfold JlC at hr
 split at hr
 · exact ⟨rfl, 0, (JMh 0 _ _ _  _).trans hr⟩
 · cases hr
def F35 : Fns := Js 76 JBu (F0)
theorem JBv : Jq tau Try.prog F35 := (Jt).add JyQ JyP
def JBw : Nm := [(0, .any), (1, .any), (5, .own), (6, .any)]
def JGH : An := (.seq .leaf (.seq .leaf (.seq .leaf (.seq .leaf (.seq (.seq .leaf (.seq .leaf (.cond .leaf .leaf))) (.seq .leaf .leaf))))))
def JBx : An := (.seq .leaf (.scope JBw JGH))
abbrev JlD (n : Int) := (IntKind.u8.wrap (JX IntKind.u64 (IntKind.u64.wrap n) (IntKind.i64.wrap (8 * IntKind.i64.wrap (0 + 1)))))
abbrev JlE (n : Int) := (IntKind.u8.wrap (JX IntKind.u64 (IntKind.u64.wrap n) (IntKind.i64.wrap (8 * IntKind.i64.wrap (IntKind.i64.wrap (0 + 1) + 1)))))
abbrev JlF (n : Int) := (IntKind.u8.wrap (JX IntKind.u64 (IntKind.u64.wrap n) (IntKind.i64.wrap (8 * IntKind.i64.wrap (IntKind.i64.wrap (IntKind.i64.wrap (0 + 1) + 1) + 1)))))
abbrev Jew := (IntKind.i64.wrap (IntKind.i64.wrap (IntKind.i64.wrap (0 + 1) + 1) + 1) + 1)
abbrev JlG (n : Int) := (IntKind.u8.wrap (JX IntKind.u64 (IntKind.u64.wrap n) (IntKind.i64.wrap (8 * IntKind.i64.wrap Jew))))
abbrev JlH (n : Int) := (IntKind.u8.wrap (JX IntKind.u64 (IntKind.u64.wrap n) (IntKind.i64.wrap (8 * IntKind.i64.wrap (IntKind.i64.wrap Jew + 1)))))
abbrev JlI (n : Int) := (IntKind.u8.wrap (JX IntKind.u64 (IntKind.u64.wrap n) (IntKind.i64.wrap (8 * IntKind.i64.wrap (IntKind.i64.wrap (IntKind.i64.wrap Jew + 1) + 1)))))
abbrev JlJ (n : Int) := (IntKind.u8.wrap (JX IntKind.u64 (IntKind.u64.wrap n) (IntKind.i64.wrap (8 * IntKind.i64.wrap (IntKind.i64.wrap (IntKind.i64.wrap (IntKind.i64.wrap Jew + 1) + 1) + 1)))))
abbrev JhB (b : List PV) (n : Int) := (List.take (0 + b.length + 1 + 1 + 1 + 1 + 1 + 1 + 1 + 1) (List.take (0 + b.length + 1 + 1 + 1 + 1 + 1 + 1 + 1) (List.take (0 + b.length + 1 + 1 + 1 + 1 + 1 + 1) (List.take (0 + b.length + 1 + 1 + 1 + 1 + 1) (List.take (0 + b.length + 1 + 1 + 1 + 1) (List.take (0 + b.length + 1 + 1 + 1) (List.take (0 + b.length + 1 + 1) (List.take (0 + b.length + 1) (List.take (0 + b.length) b ++ [PV.sc (.int .u8 (IntKind.u8.wrap (JX IntKind.u64 (IntKind.u64.wrap n) (IntKind.i64.wrap (8 * 0)))))]) ++ [PV.sc (.int .u8 (JlD n))]) ++ [PV.sc (.int .u8 (JlE n))]) ++ [PV.sc (.int .u8 (JlF n))]) ++ [PV.sc (.int .u8 (JlG n))]) ++ [PV.sc (.int .u8 (JlH n))]) ++ [PV.sc (.int .u8 (JlI n))]) ++ [PV.sc (.int .u8 (JlJ n))]))
def g35 (f : Nat) (b_z b_f : Bool) (b : List PV) (n : Int) (k : KR) : OR := bif b_z then k (Res.mk (.ro 5 false false [.sc (.int .u8 (IntKind.u8.wrap (JX IntKind.u64 (IntKind.u64.wrap n) (IntKind.i64.wrap (8 * 0))))), .sc (.int .u8 (JlD n)), .sc (.int .u8 (JlE n)), .sc (.int .u8 (JlF n)), .sc (.int .u8 (JlG n)), .sc (.int .u8 (JlH n)), .sc (.int .u8 (JlI n)), .sc (.int .u8 (JlJ n))]) [] []) else bif Je (0 + b.length) 1 && true then bif Je (0 + b.length + 1) 1 && true then bif Je (0 + b.length + 1 + 1) 1 && true then bif Je (0 + b.length + 1 + 1 + 1) 1 && true then bif Je (0 + b.length + 1 + 1 + 1 + 1) 1 && true then bif Je (0 + b.length + 1 + 1 + 1 + 1 + 1) 1 && true then bif Je (0 + b.length + 1 + 1 + 1 + 1 + 1 + 1) 1 && true then bif Je (0 + b.length + 1 + 1 + 1 + 1 + 1 + 1 + 1) 1 && true then bif Je (0 + b.length + 1 + 1 + 1 + 1 + 1 + 1 + 1 + 1) 1 && true then bif Je (0 + (JhB b n).length) 1 && true then k (Res.mk (.ro 5 false false (List.take (0 + (JhB b n).length) (JhB b n))) [] []) else none else none else none else none else none else none else none else none else none else none
theorem e35 (f : Nat) (b_z b_f : Bool) (b : List PV) (n : Int) (k : KR) : JK tau F35 Try.f35 (Try.f35.body.get!) JBx [.ro] 12 [.ro 5 b_z b_f b, .sc (.int .i64 n)] [] k = g35 f b_z b_f b n k := by kernel_rfl
theorem JMi (f : Nat) : ∀ q ∈ Jg (Try.f35.body.get!) JBx, q.Ok tau Try.prog 0 := Jx (by kernel_rfl)
theorem JGI : Try.prog.funcs[35]? = some Try.f35 := by kernel_rfl
theorem JGJ : Try.f35.body = some (Try.f35.body.get!) := by kernel_rfl
theorem JBy : Enters Try.prog 35 := enters_of JGI (by kernel_rfl) JGJ
def JGK : Fns := F0
theorem Jv9 : Jq tau Try.prog JGK := Jt
def Jsf : An := (.seq .leaf (.seq .leaf .leaf))
def JMj (f : Nat) (n : Int) (k : KR) : OR := k (Res.mk (.ow 5 16 [] 0 1 none) [] [.vec false 5 false [.sc (.int .u8 (IntKind.u8.wrap n))]])
theorem JMk (f : Nat) (n : Int) (k : KR) : JK tau JGK Try.f105 (Try.f105.body.get!) Jsf [] 0 [.ro 5 true true [], .sc (.int .i64 n)] [] k = JMj f n k := by kernel_rfl
theorem JGL (f : Nat) : ∀ q ∈ Jg (Try.f105.body.get!) Jsf, q.Ok tau Try.prog 0 := Jx (by kernel_rfl)
theorem JyR : Try.prog.funcs[105]? = some Try.f105 := by kernel_rfl
theorem JyS : Try.f105.body = some (Try.f105.body.get!) := by kernel_rfl
theorem JyT : Enters Try.prog 105 := enters_of JyR (by kernel_rfl) JyS
end
end Go.Proofs.Ythpmachmnoljeaa.Rx
