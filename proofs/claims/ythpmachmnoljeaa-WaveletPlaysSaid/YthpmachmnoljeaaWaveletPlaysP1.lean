/- What the functions of this law compute, and their plain laws. Conditions: none. -/
import Derived.Test.YthpmachmnoljeaaProg
import Derived.Test.YthpmachmnoljeaaWaveletPlaysZ4
namespace Go.Proofs.Ythpmachmnoljeaa.Rx
noncomputable section
open Go
set_option linter.unusedVariables false
set_option linter.unusedSimpArgs false
set_option maxRecDepth 100000
set_option maxHeartbeats 0
def tys : List TypeId := [1, 2, 3, 4, 5, 9, 12, 21, 22, 23, 24, 25, 26, 28, 29, 30, 31, 32, 33, 34, 35, 36, 37, 38, 39, 40, 41, 42, 43, 45, 46, 47, 48, 49, 50, 51, 52, 53, 55, 56, 57, 58, 59, 60, 61, 62, 63, 64, 65, 66, 67, 68, 69, 70, 72, 73, 74, 75, 76, 77, 78, 79, 80, 81, 83, 85, 86, 87, 88, 89, 90, 91, 92, 94, 95, 96, 97, 98, 99, 100, 101, 102, 103, 104, 105, 106, 107, 109, 110, 111, 112, 113, 114, 115, 116, 117, 118, 120, 122, 123, 124, 125, 126, 128, 129, 130, 131, 132, 133, 134, 135, 136, 137, 138, 139, 140, 141, 142, 143, 144, 145, 146, 148, 149, 150, 152, 154, 155, 156, 157, 158, 159, 160, 161, 162, 163, 164, 165, 166, 167, 168, 169, 170, 171, 172, 173, 174, 175, 176, 177, 178, 179, 180, 181, 182, 183, 185, 186, 187, 188, 189, 190, 191, 192, 201]
def JLw : TypeId -> Option PV := fun t =>
 bif t == 1 then some (.sc .nilFunc) else
 bif t == 2 then some (.sc (.int .i64 0)) else
 bif t == 3 then some (.sc (.int .i64 0)) else
 bif t == 4 then some (.sc (.bool false)) else
 bif t == 5 then some (.sc (.int .u8 0)) else
 bif t == 9 then some (.sc (.string ByteArray.empty)) else
 bif t == 12 then some (.sc (.int .u64 0)) else
 bif t == 21 then some (.sc (.int .i32 0)) else
 bif t == 22 then some (.ro 69 true true []) else
 bif t == 23 then some (.sc .nilFunc) else
 bif t == 24 then some (.sc .nilFunc) else
 bif t == 25 then some (.ro 51 true true []) else
 bif t == 26 then some (.ro 58 true true []) else
 bif t == 28 then some (.sc .nilFunc) else
 bif t == 29 then some (.ro 5 true true []) else
 bif t == 30 then some (.st 30 (List.replicate 3 (.ro 5 true true []))) else
 bif t == 31 then some (.st 31 (List.replicate 3 (.ro 5 true true []))) else
 bif t == 32 then some (.sc .nilFunc) else
 bif t == 33 then some (.st 33 [.sc (.int .i64 0), .sc (.int .i64 0)]) else
 bif t == 34 then some (.st 34 [.sc (.int .i64 0), .sc (.int .i64 0)]) else
 bif t == 35 then some (.ro 42 true true []) else
 bif t == 36 then some (.ar 36 (List.replicate 32 (.sc (.int .u8 0)))) else
 bif t == 37 then some (.ar 37 (List.replicate 32 (.sc (.int .u8 0)))) else
 bif t == 38 then some (.st 38 [.st 34 [.sc (.int .i64 0), .sc (.int .i64 0)], .sc (.string ByteArray.empty), .ro 42 true true [], .sc (.int .i64 0), .ar 37 (List.replicate 32 (.sc (.int .u8 0)))]) else
 bif t == 39 then some (.st 39 [.st 34 [.sc (.int .i64 0), .sc (.int .i64 0)], .sc (.string ByteArray.empty), .ro 42 true true [], .sc (.int .i64 0), .ar 37 (List.replicate 32 (.sc (.int .u8 0)))]) else
 bif t == 40 then some (.sc .nilFunc) else
 bif t == 41 then some (.st 41 [.sc (.int .i64 0), .sc (.int .i64 0)]) else
 bif t == 42 then some (.st 42 [.sc (.int .i64 0), .sc (.int .i64 0)]) else
 bif t == 43 then some (.sc (.int .i64 0)) else
 bif t == 45 then some (.sc .nilFunc) else
 bif t == 46 then some (.st 46 [.ro 5 true true [], .ar 37 (List.replicate 32 (.sc (.int .u8 0)))]) else
 bif t == 47 then some (.st 47 [.ro 5 true true [], .ar 37 (List.replicate 32 (.sc (.int .u8 0)))]) else
 bif t == 48 then some (.ro 113 true true []) else
 bif t == 49 then some (.ro 113 true true []) else
 bif t == 50 then some (.st 50 [.st 47 [.ro 5 true true [], .ar 37 (List.replicate 32 (.sc (.int .u8 0)))], .sc (.int .i64 0), .ro 113 true true [], .ar 37 (List.replicate 32 (.sc (.int .u8 0))), .ar 37 (List.replicate 32 (.sc (.int .u8 0)))]) else
 bif t == 51 then some (.st 51 [.st 47 [.ro 5 true true [], .ar 37 (List.replicate 32 (.sc (.int .u8 0)))], .sc (.int .i64 0), .ro 113 true true [], .ar 37 (List.replicate 32 (.sc (.int .u8 0))), .ar 37 (List.replicate 32 (.sc (.int .u8 0)))]) else
 bif t == 52 then some (.st 52 [.st 42 [.sc (.int .i64 0), .sc (.int .i64 0)], .sc (.int .i64 0), .sc (.int .i64 0), .ar 37 (List.replicate 32 (.sc (.int .u8 0))), .sc (.int .i64 0), .ro 113 true true [], .st 42 [.sc (.int .i64 0), .sc (.int .i64 0)]]) else
 bif t == 53 then some (.st 53 [.st 42 [.sc (.int .i64 0), .sc (.int .i64 0)], .sc (.int .i64 0), .sc (.int .i64 0), .ar 37 (List.replicate 32 (.sc (.int .u8 0))), .sc (.int .i64 0), .ro 113 true true [], .st 42 [.sc (.int .i64 0), .sc (.int .i64 0)]]) else
 bif t == 55 then some (.sc .nilFunc) else
 bif t == 56 then some (.sc .nilFunc) else
 bif t == 57 then some (.ro 3 true true []) else
 bif t == 58 then some (.st 58 [.st 34 [.sc (.int .i64 0), .sc (.int .i64 0)], .sc (.string ByteArray.empty), .ro 42 true true [], .sc (.int .i64 0), .ar 37 (List.replicate 32 (.sc (.int .u8 0)))]) else
 bif t == 59 then some (.sc .nilFunc) else
 bif t == 60 then some (.sc .nilFunc) else
 bif t == 61 then some (.sc .nilFunc) else
 bif t == 62 then some (.sc .nilFunc) else
 bif t == 63 then some (.sc .nilFunc) else
 bif t == 64 then some (.sc .nilFunc) else
 bif t == 65 then some (.sc .nilFunc) else
 bif t == 66 then some (.sc .nilFunc) else
 bif t == 67 then some (.sc .nilFunc) else
 bif t == 68 then some (.st 68 [.sc (.int .i64 0), .sc (.int .i64 0), .sc (.int .i64 0), .ro 3 true true []]) else
 bif t == 69 then some (.st 69 [.sc (.int .i64 0), .sc (.int .i64 0), .sc (.int .i64 0), .ro 3 true true []]) else
 bif t == 70 then some (.sc .nilFunc) else
 bif t == 72 then some (.sc .nilFunc) else
 bif t == 73 then some (.sc .nilFunc) else
 bif t == 74 then some (.sc .nilFunc) else
 bif t == 75 then some (.ro 29 true true []) else
 bif t == 76 then some (.st 76 [.sc (.int .i64 0), .sc (.int .i64 0), .sc (.int .i64 0), .st 34 [.sc (.int .i64 0), .sc (.int .i64 0)], .st 42 [.sc (.int .i64 0), .sc (.int .i64 0)], .sc (.int .i64 0), .sc (.int .i64 0), .st 42 [.sc (.int .i64 0), .sc (.int .i64 0)], .sc (.int .i64 0), .sc (.int .i64 0), .ro 29 true true []]) else
 bif t == 77 then some (.st 77 [.sc (.int .i64 0), .sc (.int .i64 0), .sc (.int .i64 0), .st 34 [.sc (.int .i64 0), .sc (.int .i64 0)], .st 42 [.sc (.int .i64 0), .sc (.int .i64 0)], .sc (.int .i64 0), .sc (.int .i64 0), .st 42 [.sc (.int .i64 0), .sc (.int .i64 0)], .sc (.int .i64 0), .sc (.int .i64 0), .ro 29 true true []]) else
 bif t == 78 then some (.sc .nilFunc) else
 bif t == 79 then some (.sc .nilFunc) else
 bif t == 80 then some (.sc .nilFunc) else
 bif t == 81 then some (.sc .nilFunc) else
 bif t == 83 then some (.sc .nilFunc) else
 bif t == 85 then some (.sc .nilFunc) else
 bif t == 86 then some (.sc .nilFunc) else
 bif t == 87 then some (.sc .nilFunc) else
 bif t == 88 then some (.sc (.complex .f64 0 0)) else
 bif t == 89 then some (.sc (.float .f64 0)) else
 bif t == 90 then some (.ro 88 true true []) else
 bif t == 91 then some (.sc .nilFunc) else
 bif t == 92 then some (.sc .nilFunc) else
 bif t == 94 then some (.sc .nilFunc) else
 bif t == 95 then some (.sc .nilFunc) else
 bif t == 96 then some (.sc (.pointer none)) else
 bif t == 97 then some (.st 97 [.st 39 [.st 34 [.sc (.int .i64 0), .sc (.int .i64 0)], .sc (.string ByteArray.empty), .ro 42 true true [], .sc (.int .i64 0), .ar 37 (List.replicate 32 (.sc (.int .u8 0)))], .st 53 [.st 42 [.sc (.int .i64 0), .sc (.int .i64 0)], .sc (.int .i64 0), .sc (.int .i64 0), .ar 37 (List.replicate 32 (.sc (.int .u8 0))), .sc (.int .i64 0), .ro 113 true true [], .st 42 [.sc (.int .i64 0), .sc (.int .i64 0)]]]) else
 bif t == 98 then some (.st 98 [.st 39 [.st 34 [.sc (.int .i64 0), .sc (.int .i64 0)], .sc (.string ByteArray.empty), .ro 42 true true [], .sc (.int .i64 0), .ar 37 (List.replicate 32 (.sc (.int .u8 0)))], .st 53 [.st 42 [.sc (.int .i64 0), .sc (.int .i64 0)], .sc (.int .i64 0), .sc (.int .i64 0), .ar 37 (List.replicate 32 (.sc (.int .u8 0))), .sc (.int .i64 0), .ro 113 true true [], .st 42 [.sc (.int .i64 0), .sc (.int .i64 0)]]]) else
 bif t == 99 then some (.sc .nilFunc) else
 bif t == 100 then some (.sc .nilFunc) else
 bif t == 101 then some (.sc .nilFunc) else
 bif t == 102 then some (.sc (.pointer none)) else
 bif t == 103 then some (.sc .nilFunc) else
 bif t == 104 then some (.sc .nilFunc) else
 bif t == 105 then some (.sc .nilFunc) else
 bif t == 106 then some (.sc .nilFunc) else
 bif t == 107 then some (.sc .nilFunc) else
 bif t == 109 then some (.sc .nilFunc) else
 bif t == 110 then some (.sc .nilFunc) else
 bif t == 111 then some (.sc .nilFunc) else
 bif t == 112 then some (.st 112 [.sc (.int .i64 0), .sc (.int .i64 0), .sc (.string ByteArray.empty)]) else
 bif t == 113 then some (.st 113 [.sc (.int .i64 0), .sc (.int .i64 0), .sc (.string ByteArray.empty)]) else
 bif t == 114 then some (.sc .nilFunc) else
 bif t == 115 then some (.sc .nilFunc) else
 bif t == 116 then some (.sc .nilFunc) else
 bif t == 117 then some (.sc .nilFunc) else
 bif t == 118 then some (.sc .nilFunc) else
 bif t == 120 then some (.sc .nilFunc) else
 bif t == 122 then some (.sc .nilFunc) else
 bif t == 123 then some (.sc .nilFunc) else
 bif t == 124 then some (.sc .nilFunc) else
 bif t == 125 then some (.sc (.pointer none)) else
 bif t == 126 then some (.sc .nilFunc) else
 bif t == 128 then some (.sc .nilFunc) else
 bif t == 129 then some (.sc .nilFunc) else
 bif t == 130 then some (.sc .nilFunc) else
 bif t == 131 then some (.sc .nilFunc) else
 bif t == 132 then some (.sc .nilFunc) else
 bif t == 133 then some (.sc .nilFunc) else
 bif t == 134 then some (.st 134 [.ro 5 true true [], .sc (.int .i64 0), .sc (.int .i64 0)]) else
 bif t == 135 then some (.st 135 [.ro 5 true true [], .sc (.int .i64 0), .sc (.int .i64 0)]) else
 bif t == 136 then some (.sc .nilFunc) else
 bif t == 137 then some (.sc .nilFunc) else
 bif t == 138 then some (.sc .nilFunc) else
 bif t == 139 then some (.sc .nilFunc) else
 bif t == 140 then some (.sc (.int .u64 0)) else
 bif t == 141 then some (.sc (.int .u32 0)) else
 bif t == 142 then some (.ar 142 (List.replicate 8 (.sc (.int .u32 0)))) else
 bif t == 143 then some (.ar 143 (List.replicate 8 (.sc (.int .u32 0)))) else
 bif t == 144 then some (.sc .nilFunc) else
 bif t == 145 then some (.sc .nilFunc) else
 bif t == 146 then some (.sc .nilFunc) else
 bif t == 148 then some (.sc .nilFunc) else
 bif t == 149 then some (.sc .nilFunc) else
 bif t == 150 then some (.sc .nilFunc) else
 bif t == 152 then some (.sc .nilFunc) else
 bif t == 154 then some (.sc .nilFunc) else
 bif t == 155 then some (.sc .nilFunc) else
 bif t == 156 then some (.sc .nilFunc) else
 bif t == 157 then some (.sc .nilFunc) else
 bif t == 158 then some (.sc (.int .u64 0)) else
 bif t == 159 then some (.ar 159 (List.replicate 64 (.sc (.int .u32 0)))) else
 bif t == 160 then some (.sc .nilFunc) else
 bif t == 161 then some (.sc .nilFunc) else
 bif t == 162 then some (.sc .nilFunc) else
 bif t == 163 then some (.sc .nilFunc) else
 bif t == 164 then some (.sc .nilFunc) else
 bif t == 165 then some (.st 165 [.ro 5 true true [], .sc (.int .i64 0)]) else
 bif t == 166 then some (.st 166 [.ro 5 true true [], .sc (.int .i64 0)]) else
 bif t == 167 then some (.ro 170 true true []) else
 bif t == 168 then some (.sc .nilFunc) else
 bif t == 169 then some (.sc (.pointer none)) else
 bif t == 170 then some (.sc (.pointer none)) else
 bif t == 171 then some (.sc .nilFunc) else
 bif t == 172 then some (.sc .nilFunc) else
 bif t == 173 then some (.ar 173 (List.replicate 64 (.sc (.int .u8 0)))) else
 bif t == 174 then some (.ar 174 (List.replicate 64 (.sc (.int .u8 0)))) else
 bif t == 175 then some (.sc .nilFunc) else
 bif t == 176 then some (.sc .nilFunc) else
 bif t == 177 then some (.sc .nilFunc) else
 bif t == 178 then some (.sc .nilFunc) else
 bif t == 179 then some (.sc .nilFunc) else
 bif t == 180 then some (.sc .nilFunc) else
 bif t == 181 then some (.sc .nilFunc) else
 bif t == 182 then some (.sc .nilFunc) else
 bif t == 183 then some (.sc .nilFunc) else
 bif t == 185 then some (.sc .nilFunc) else
 bif t == 186 then some (.sc .nilFunc) else
 bif t == 187 then some (.sc .nilFunc) else
 bif t == 188 then some (.sc .nilFunc) else
 bif t == 189 then some (.sc .nilFunc) else
 bif t == 190 then some (.ro 35 true true []) else
 bif t == 191 then some (.sc .nilFunc) else
 bif t == 192 then some (.sc .nilFunc) else
 bif t == 201 then some (.sc (.pointer none)) else
 none
def tau : Tab := Jaq Try.prog tys JLw
theorem Jn : TabOk tau Try.prog := Jrb (by kernel_rfl)
theorem Jo : Try.prog.follows .mixedOrders = true := by kernel_rfl
abbrev OR := Option Res
abbrev KR := Res -> OR
abbrev Jz := List PV -> List Ent -> (Res -> Option Res) -> Option Res
theorem Jw {c : Code} {an : An} {np : Nat} (h : Jf c an = []) : ∀ q ∈ Jf c an, q.Ok tau Try.prog np := fun q hq => by rw [h] at hq; cases hq
theorem JL {a : Item} {l : List Item} {np : Nat} (h : a.Ok tau Try.prog np) (h2 : ∀ q ∈ l, q.Ok tau Try.prog np) : ∀ q ∈ a :: l, q.Ok tau Try.prog np := List.forall_mem_cons.2 ⟨h, h2⟩
def F0 : Fns := fun _ => none
theorem Js : Jq tau Try.prog F0 := fun g sg h => by cases h
def N63 : Nat := 26
def F63 : Fns := F0
theorem Jrf : Jq tau Try.prog F63 := Js
def Joi : Code := Qd (Try.f63.body.get!) [1, 1, 0, 1, 0, 0]
def Jec : Nm := [(0, .any), (1, .any), (12, .any), (13, .any)]
def Jhi : Nm := [(4, .any)]
def Jrg : An := (.seq .leaf (.seq (.cond .leaf .leaf) (.seq (.block none (.seq .leaf (.seq .leaf (.cond (.seq .leaf .leaf) .leaf)))) .leaf)))
def Jvf (r0 : Qr) : An := (.seq .leaf (.seq (.seq .leaf (.cond (.seq .leaf .leaf) .leaf)) (.seq (.seq .leaf (.block none (.sum Jec N63 r0))) (.seq .leaf .leaf))))
def Jar (f : Nat) (rc : Bool -> Bool -> List PV -> Bool -> Bool -> List PV -> Int -> Int -> OR) (k0 : Bool -> OR) (k1 : OR) (v0 v1 : Bool) (v2 : List PV) (v3 v4 : Bool) (v5 : List PV) (v6 v7 : Int) : OR := bif decide (v7 < v6) then bif decide (0 <= v7) && decide (v7 < zi v2.length) && (PV.isSt 42 #[Field.mk "D" 3 0 false "" "" 0, Field.mk "U" 3 1 false "" "" 8].size (v2.getD v7.toNat PV.top) && (PV.isInt IntKind.i64 (PV.child 0 (v2.getD v7.toNat PV.top)) && (PV.isInt IntKind.i64 (PV.child (0 + 1) (v2.getD v7.toNat PV.top)) && true))) && true then bif decide (0 <= v7) && decide (v7 < zi v5.length) && (PV.isSt 42 #[Field.mk "D" 3 0 false "" "" 0, Field.mk "U" 3 1 false "" "" 8].size (v5.getD v7.toNat PV.top) && (PV.isInt IntKind.i64 (PV.child 0 (v5.getD v7.toNat PV.top)) && (PV.isInt IntKind.i64 (PV.child (0 + 1) (v5.getD v7.toNat PV.top)) && true))) && true then bif !((PV.child 0 (v2.getD v7.toNat PV.top)).int == (PV.child 0 (v5.getD v7.toNat PV.top)).int && ((PV.child (0 + 1) (v2.getD v7.toNat PV.top)).int == (PV.child (0 + 1) (v5.getD v7.toNat PV.top)).int && true)) then k0 false else rc v0 v1 v2 v3 v4 v5 v6 (IntKind.i64.wrap (v7 + 1)) else none else none else k1
def Gq (f : Nat) (k0 : Bool -> OR) (k1 : OR) : Nat -> Bool -> Bool -> List PV -> Bool -> Bool -> List PV -> Int -> Int -> OR
 | 0, _, _, _, _, _, _, _, _ => none
 | n + 1, v0, v1, v2, v3, v4, v5, v6, v7 => Jar f (Gq f k0 k1 n) k0 k1 v0 v1 v2 v3 v4 v5 v6 v7
def Jas (k : Kont) := fun x0 => k Ex.ret (Ji Jhi N63 [.sc (.bool x0)] [])
def Jat (k : Kont) := k (Ex.exit 0) (Ji Jhi N63 [PV.top] [])
def Jla (f : Nat) (k : Kont) (n : Nat) (v0 v1 : Bool) (v2 : List PV) (v3 v4 : Bool) (v5 : List PV) (v6 v7 : Int) : OR := Jy tau 0 Jec (fun s k => ev tau F63 0 0 Joi (Jrg ) s k) n (Ji Jec N63 [.ro 42 v0 v1 v2, .ro 42 v3 v4 v5, .sc (.int .i64 v6), .sc (.int .i64 v7)] []) (JG tau 0 Jhi k)
theorem Jvg (f : Nat) (k : Kont) (n : Nat) (v0 v1 : Bool) (v2 : List PV) (v3 v4 : Bool) (v5 : List PV) (v6 v7 : Int) : Jla f k (n + 1) v0 v1 v2 v3 v4 v5 v6 v7 = Jar f (Jla f k n) (Jas k) (Jat k) v0 v1 v2 v3 v4 v5 v6 v7 := by kernel_rfl
theorem Joj (f : Nat) (k : Kont) : ∀ (n : Nat) (v0 v1 : Bool) (v2 : List PV) (v3 v4 : Bool) (v5 : List PV) (v6 v7 : Int), Jla f k n v0 v1 v2 v3 v4 v5 v6 v7 = Gq f (Jas k) (Jat k) n v0 v1 v2 v3 v4 v5 v6 v7 | 0, _, _, _, _, _, _, _, _ => rfl | n + 1, v0, v1, v2, v3, v4, v5, v6, v7 => (Jvg f k n v0 v1 v2 v3 v4 v5 v6 v7).trans (congrArg (fun r => Jar f r (Jas k) (Jat k) v0 v1 v2 v3 v4 v5 v6 v7) (by funext v0 v1 v2 v3 v4 v5 v6 v7; exact Joj f k n v0 v1 v2 v3 v4 v5 v6 v7))
def Jed (f : Nat) : List PV -> List (Nat × Ent) -> Kont -> OR
 | [.ro 42 v0 v1 v2, .ro 42 v3 v4 v5, .sc (.int .i64 v6),
 .sc (.int .i64 v7)], [], k => Gq f (Jas k) (Jat k) f v0 v1 v2 v3 v4 v5 v6 v7
 | _, _, _ => none
theorem JAi (f : Nat) : Jf Joi Jrg = [] := by kernel_rfl
theorem JAj (f : Nat) : (Item.l Joi Jec N63 (Jed f)).Ok tau Try.prog 0 := Ju Jn Jrf Jo (x := Jrg) (nm2 := Jhi) (Jk _ _ (by rw [JAi f]; intro q hq; cases hq)) fun vs hp k res hr => by
 unfold Jed at hr
 split at hr
 · exact ⟨f, 0, (Joj f _ f _ _ _ _ _ _ _ _ ).trans hr⟩
 · cases hr
def g63 (f : Nat) (s1_z s1_f : Bool) (s1 : List PV) (s2_z s2_f : Bool) (s2 : List PV) (k : KR) : OR := bif zi s1.length != zi s2.length then k (Res.mk (.sc (.bool false)) [] []) else Gq f (fun x0_0 => k (Res.mk (.sc (.bool x0_0)) [] [])) (k (Res.mk (.sc (.bool true)) [] [])) f s1_z s1_f s1 s2_z s2_f s2 (zi s1.length) (0)
theorem e63 (f : Nat) (s1_z s1_f : Bool) (s1 : List PV) (s2_z s2_f : Bool) (s2 : List PV) (k : KR) : JJ tau F63 Try.f63 (Try.f63.body.get!) (Jvf (Jed f)) [.ro] 0 [.ro 42 s1_z s1_f s1, .ro 42 s2_z s2_f s2] [] k = g63 f s1_z s1_f s1 s2_z s2_f s2 k := by kernel_rfl
theorem JLx (f : Nat) : Jf (Try.f63.body.get!) (Jvf (Jed f)) = [.l Joi Jec N63 (Jed f)] := by kernel_rfl
theorem JLy (f : Nat) : ∀ q ∈ Jf (Try.f63.body.get!) (Jvf (Jed f)), q.Ok tau Try.prog 0 := by rw [JLx f]; exact JL (JAj f) (fun _ h => nomatch h)
theorem JEO : Try.prog.funcs[63]? = some Try.f63 := by kernel_rfl
theorem JEP : Try.f63.body = some (Try.f63.body.get!) := by kernel_rfl
theorem JLz : Enters Try.prog 63 := enters_of JEO (by kernel_rfl) JEP
def JEQ : Fns := F0
theorem Jvh : Jq tau Try.prog JEQ := Js
def Jrh : An := (.seq .leaf (.seq .leaf .leaf))
def Jvi (f : Nat) (a_D a_U b_D b_U : Int) (k : KR) : OR := bif decide (a_D < b_D) then k (Res.mk (.sc (.bool true)) [] []) else bif a_D == b_D then k (Res.mk (.sc (.bool (decide (a_U < b_U)))) [] []) else k (Res.mk (.sc (.bool false)) [] [])
theorem JLA (f : Nat) (a_D a_U b_D b_U : Int) (k : KR) : JJ tau JEQ Try.f104 (Try.f104.body.get!) Jrh [.ro] 0 [.st 42 [.sc (.int .i64 a_D), .sc (.int .i64 a_U)], .st 42 [.sc (.int .i64 b_D), .sc (.int .i64 b_U)]] [] k = Jvi f a_D a_U b_D b_U k := by kernel_rfl
theorem JER (f : Nat) : ∀ q ∈ Jf (Try.f104.body.get!) Jrh, q.Ok tau Try.prog 0 := Jw (by kernel_rfl)
theorem Jx3 : Try.prog.funcs[104]? = some Try.f104 := by kernel_rfl
theorem Jx4 : Try.f104.body = some (Try.f104.body.get!) := by kernel_rfl
theorem JES : Enters Try.prog 104 := enters_of Jx3 (by kernel_rfl) Jx4
def Jlb : Jz
 | [.st 42 [.sc (.int .i64 a_D), .sc (.int .i64 a_U)], .st 42 [.sc (.int .i64 b_D), .sc (.int .i64 b_U)]], [], k => Jvi 0 a_D a_U b_D b_U k
 | _, _, _ => none
def JLB : Sig := { own := [], run := Jlb }
theorem JET : Jc tau Try.prog 104 JLB := JN Jn Jvh Jo Jx3 Jx4 Jrh [.ro] 0 [] Jlb (JER 0) fun xs es k res hr => by
 unfold Jlb at hr
 split at hr
 · exact ⟨rfl, 0, (JLA 0 _ _ _ _  _).trans hr⟩
 · cases hr
def N58 : Nat := 18
def F58 : Fns := F0
theorem Jri : Jq tau Try.prog F58 := Js
def Jok : Code := Qd (Try.f58.body.get!) [1, 0, 1, 0, 0]
def Jee : Nm := [(0, .any), (3, .any), (5, .any)]
def Jhj : Nm := [(4, .any)]
def Jrj : An := (.seq (.seq .leaf (.cond .leaf .leaf)) (.seq (.block none (.seq .leaf (.cond (.seq .leaf .leaf) .leaf))) .leaf))
def Jvj (r0 : Qr) : An := (.seq .leaf (.seq (.seq .leaf (.block none (.sum Jee N58 r0))) (.seq .leaf .leaf)))
def Jau (f : Nat) (rc : Bool -> Bool -> List PV -> Int -> Int -> Int -> OR) (k0 : Bool -> OR) (k1 : OR) (v0 v1 : Bool) (v2 : List PV) (v3 v4 v5 : Int) : OR := bif decide (v3 < zi v2.length) then bif decide (0 <= v3) && decide (v3 < zi v2.length) && (PV.isSt 42 #[Field.mk "D" 3 0 false "" "" 0, Field.mk "U" 3 1 false "" "" 8].size (v2.getD v3.toNat PV.top) && (PV.isInt IntKind.i64 (PV.child 0 (v2.getD v3.toNat PV.top)) && (PV.isInt IntKind.i64 (PV.child (0 + 1) (v2.getD v3.toNat PV.top)) && true))) && true then bif (PV.child 0 (v2.getD v3.toNat PV.top)).int == v4 && ((PV.child (0 + 1) (v2.getD v3.toNat PV.top)).int == v5 && true) then k0 true else rc v0 v1 v2 (IntKind.i64.wrap (v3 + 1)) v4 v5 else none else k1
def Gr (f : Nat) (k0 : Bool -> OR) (k1 : OR) : Nat -> Bool -> Bool -> List PV -> Int -> Int -> Int -> OR
 | 0, _, _, _, _, _, _ => none
 | n + 1, v0, v1, v2, v3, v4, v5 => Jau f (Gr f k0 k1 n) k0 k1 v0 v1 v2 v3 v4 v5
def Jav (k : Kont) := fun x0 => k Ex.ret (Ji Jhj N58 [.sc (.bool x0)] [])
def Jaw (k : Kont) := k (Ex.exit 0) (Ji Jhj N58 [PV.top] [])
def Jlc (f : Nat) (k : Kont) (n : Nat) (v0 v1 : Bool) (v2 : List PV) (v3 v4 v5 : Int) : OR := Jy tau 0 Jee (fun s k => ev tau F58 0 0 Jok (Jrj ) s k) n (Ji Jee N58 [.ro 42 v0 v1 v2, .ptr 304 [], .sc (.int .i64 v3)] [(304, .box false 42 (PV.st 42 [.sc (.int .i64 v4), .sc (.int .i64 v5)]))]) (JG tau 0 Jhj k)
theorem Jvk (f : Nat) (k : Kont) (n : Nat) (v0 v1 : Bool) (v2 : List PV) (v3 v4 v5 : Int) : Jlc f k (n + 1) v0 v1 v2 v3 v4 v5 = Jau f (Jlc f k n) (Jav k) (Jaw k) v0 v1 v2 v3 v4 v5 := by kernel_rfl
theorem Jol (f : Nat) (k : Kont) : ∀ (n : Nat) (v0 v1 : Bool) (v2 : List PV) (v3 v4 v5 : Int), Jlc f k n v0 v1 v2 v3 v4 v5 = Gr f (Jav k) (Jaw k) n v0 v1 v2 v3 v4 v5 | 0, _, _, _, _, _, _ => rfl | n + 1, v0, v1, v2, v3, v4, v5 => (Jvk f k n v0 v1 v2 v3 v4 v5).trans (congrArg (fun r => Jau f r (Jav k) (Jaw k) v0 v1 v2 v3 v4 v5) (by funext v0 v1 v2 v3 v4 v5; exact Jol f k n v0 v1 v2 v3 v4 v5))
def Jef (f : Nat) : List PV -> List (Nat × Ent) -> Kont -> OR
 | [.ro 42 v0 v1 v2, .ptr 304 [],
 PV.sc
  (Value.int IntKind.i64
   v3)], [(304,
  Ent.box false 42
   (PV.st 42
    [.sc (.int .i64 v4),
     .sc (.int .i64 v5)]))], k => Gr f (Jav k) (Jaw k) f v0 v1 v2 v3 v4 v5
 | _, _, _ => none
theorem JAk (f : Nat) : Jf Jok Jrj = [] := by kernel_rfl
theorem JAl (f : Nat) : (Item.l Jok Jee N58 (Jef f)).Ok tau Try.prog 0 := Ju Jn Jri Jo (x := Jrj) (nm2 := Jhj) (Jk _ _ (by rw [JAk f]; intro q hq; cases hq)) fun vs hp k res hr => by
 unfold Jef at hr
 split at hr
 · exact ⟨f, 0, (Jol f _ f _ _ _ _ _ _ ).trans hr⟩
 · cases hr
def g58 (f : Nat) (l_z l_f : Bool) (l : List PV) (a_D a_U : Int) (k : KR) : OR := Gr f (fun x0_0 => k (Res.mk (.sc (.bool x0_0)) [] [])) (k (Res.mk (.sc (.bool false)) [] [])) f l_z l_f l (0) a_D a_U
theorem e58 (f : Nat) (l_z l_f : Bool) (l : List PV) (a_D a_U : Int) (k : KR) : JJ tau F58 Try.f58 (Try.f58.body.get!) (Jvj (Jef f)) [.ro] 0 [.ro 42 l_z l_f l, .st 42 [.sc (.int .i64 a_D), .sc (.int .i64 a_U)]] [] k = g58 f l_z l_f l a_D a_U k := by kernel_rfl
theorem JLC (f : Nat) : Jf (Try.f58.body.get!) (Jvj (Jef f)) = [.l Jok Jee N58 (Jef f)] := by kernel_rfl
theorem JLD (f : Nat) : ∀ q ∈ Jf (Try.f58.body.get!) (Jvj (Jef f)), q.Ok tau Try.prog 0 := by rw [JLC f]; exact JL (JAl f) (fun _ h => nomatch h)
theorem JEU : Try.prog.funcs[58]? = some Try.f58 := by kernel_rfl
theorem JEV : Try.f58.body = some (Try.f58.body.get!) := by kernel_rfl
theorem JAm : Enters Try.prog 58 := enters_of JEU (by kernel_rfl) JEV
def JEW : Fns := F0
theorem Jvl : Jq tau Try.prog JEW := Js
def Jrk : An := (.seq .leaf (.seq (.seq .leaf (.block none (.seq (.seq .leaf (.cond .leaf .leaf)) (.cond (.seq .leaf (.cond (.seq .leaf .leaf) .leaf)) (.seq .leaf (.cond (.seq .leaf (.cond (.seq .leaf .leaf) .leaf)) (.seq .leaf .leaf))))))) (.seq (.seq .leaf (.cond (.seq .leaf .leaf) .leaf)) (.seq .leaf .leaf))))
def Jvm (f : Nat) (y0 c_N : Int) (c_S : ByteArray) (k : KR) : OR := bif y0 == 1 then bif y0 == 1 then bif decide (c_N < 1) then k (Res.mk (.sc (.int .i64 1)) [] []) else bif decide (c_N > 120) then k (Res.mk (.sc (.int .i64 1)) [] []) else bif !XN c_S (ByteArray.mk (Array.mk [])) then k (Res.mk (.sc (.int .i64 1)) [] []) else bif decide (zi c_S.size > 120) then k (Res.mk (.sc (.int .i64 5)) [] []) else k (Res.mk (.sc (.int .i64 0)) [] []) else bif y0 == 2 then bif c_N != 0 then k (Res.mk (.sc (.int .i64 1)) [] []) else bif XN c_S (ByteArray.mk (Array.mk [])) then k (Res.mk (.sc (.int .i64 1)) [] []) else bif decide (zi c_S.size > 120) then k (Res.mk (.sc (.int .i64 5)) [] []) else k (Res.mk (.sc (.int .i64 0)) [] []) else k (Res.mk (.sc (.int .i64 3)) [] []) else bif y0 == 3 then bif decide (c_N < 1) then k (Res.mk (.sc (.int .i64 1)) [] []) else bif decide (c_N > 120) then k (Res.mk (.sc (.int .i64 1)) [] []) else bif !XN c_S (ByteArray.mk (Array.mk [])) then k (Res.mk (.sc (.int .i64 1)) [] []) else bif decide (zi c_S.size > 120) then k (Res.mk (.sc (.int .i64 5)) [] []) else k (Res.mk (.sc (.int .i64 0)) [] []) else bif y0 == 2 then bif c_N != 0 then k (Res.mk (.sc (.int .i64 1)) [] []) else bif XN c_S (ByteArray.mk (Array.mk [])) then k (Res.mk (.sc (.int .i64 1)) [] []) else bif decide (zi c_S.size > 120) then k (Res.mk (.sc (.int .i64 5)) [] []) else k (Res.mk (.sc (.int .i64 0)) [] []) else k (Res.mk (.sc (.int .i64 3)) [] [])
theorem JLE (f : Nat) (y0 c_N : Int) (c_S : ByteArray) (k : KR) : JJ tau JEW Try.f124 (Try.f124.body.get!) Jrk [.ro] 0 [.st 113 [.sc (.int .i64 y0), .sc (.int .i64 c_N), .sc (.string c_S)]] [] k = Jvm f y0 c_N c_S k := by kernel_rfl
theorem JEX (f : Nat) : ∀ q ∈ Jf (Try.f124.body.get!) Jrk, q.Ok tau Try.prog 0 := Jw (by kernel_rfl)
theorem Jx5 : Try.prog.funcs[124]? = some Try.f124 := by kernel_rfl
theorem Jx6 : Try.f124.body = some (Try.f124.body.get!) := by kernel_rfl
theorem JEY : Enters Try.prog 124 := enters_of Jx5 (by kernel_rfl) Jx6
def Jld : Jz
 | [.st 113 [.sc (.int .i64 y0), .sc (.int .i64 c_N), .sc (.string c_S)]], [], k => Jvm 0 y0 c_N c_S k
 | _, _, _ => none
def JLF : Sig := { own := [], run := Jld }
theorem JEZ : Jc tau Try.prog 124 JLF := JN Jn Jvl Jo Jx5 Jx6 Jrk [.ro] 0 [] Jld (JEX 0) fun xs es k res hr => by
 unfold Jld at hr
 split at hr
 · exact ⟨rfl, 0, (JLE 0 _ _ _  _).trans hr⟩
 · cases hr
def JE0 : Fns := F0
theorem Jvn : Jq tau Try.prog JE0 := Js
def Jrl : An := (.seq .leaf (.seq (.seq .leaf (.block none (.seq (.seq .leaf (.cond .leaf .leaf)) (.cond (.seq .leaf (.cond (.seq .leaf .leaf) .leaf)) (.seq .leaf (.cond (.seq (.seq .leaf (.cond (.seq .leaf .leaf) .leaf)) (.seq .leaf (.cond (.seq .leaf .leaf) .leaf))) (.seq .leaf .leaf))))))) (.seq .leaf .leaf)))
def Jvo (f : Nat) (y0 c_N : Int) (c_S : ByteArray) (k : KR) : OR := bif y0 == 1 then bif y0 == 1 then bif decide (c_N < 1) then k (Res.mk (.sc (.int .i64 1)) [] []) else bif decide (c_N > 120) then k (Res.mk (.sc (.int .i64 1)) [] []) else bif !XN c_S (ByteArray.mk (Array.mk [])) then k (Res.mk (.sc (.int .i64 1)) [] []) else k (Res.mk (.sc (.int .i64 0)) [] []) else bif y0 == 2 then bif c_N != 0 then k (Res.mk (.sc (.int .i64 1)) [] []) else bif XN c_S (ByteArray.mk (Array.mk [])) then k (Res.mk (.sc (.int .i64 1)) [] []) else bif decide (zi c_S.size > 120) then k (Res.mk (.sc (.int .i64 5)) [] []) else k (Res.mk (.sc (.int .i64 0)) [] []) else k (Res.mk (.sc (.int .i64 3)) [] []) else bif y0 == 3 then bif decide (c_N < 1) then k (Res.mk (.sc (.int .i64 1)) [] []) else bif decide (c_N > 120) then k (Res.mk (.sc (.int .i64 1)) [] []) else bif !XN c_S (ByteArray.mk (Array.mk [])) then k (Res.mk (.sc (.int .i64 1)) [] []) else k (Res.mk (.sc (.int .i64 0)) [] []) else bif y0 == 2 then bif c_N != 0 then k (Res.mk (.sc (.int .i64 1)) [] []) else bif XN c_S (ByteArray.mk (Array.mk [])) then k (Res.mk (.sc (.int .i64 1)) [] []) else bif decide (zi c_S.size > 120) then k (Res.mk (.sc (.int .i64 5)) [] []) else k (Res.mk (.sc (.int .i64 0)) [] []) else k (Res.mk (.sc (.int .i64 3)) [] [])
theorem JLG (f : Nat) (y0 c_N : Int) (c_S : ByteArray) (k : KR) : JJ tau JE0 Try.f101 (Try.f101.body.get!) Jrl [.ro] 0 [.st 113 [.sc (.int .i64 y0), .sc (.int .i64 c_N), .sc (.string c_S)]] [] k = Jvo f y0 c_N c_S k := by kernel_rfl
theorem JE1 (f : Nat) : ∀ q ∈ Jf (Try.f101.body.get!) Jrl, q.Ok tau Try.prog 0 := Jw (by kernel_rfl)
theorem Jx7 : Try.prog.funcs[101]? = some Try.f101 := by kernel_rfl
theorem Jx8 : Try.f101.body = some (Try.f101.body.get!) := by kernel_rfl
theorem JE2 : Enters Try.prog 101 := enters_of Jx7 (by kernel_rfl) Jx8
def Jle : Jz
 | [.st 113 [.sc (.int .i64 y0), .sc (.int .i64 c_N), .sc (.string c_S)]], [], k => Jvo 0 y0 c_N c_S k
 | _, _, _ => none
def JLH : Sig := { own := [], run := Jle }
theorem JE3 : Jc tau Try.prog 101 JLH := JN Jn Jvn Jo Jx7 Jx8 Jrl [.ro] 0 [] Jle (JE1 0) fun xs es k res hr => by
 unfold Jle at hr
 split at hr
 · exact ⟨rfl, 0, (JLG 0 _ _ _  _).trans hr⟩
 · cases hr
-- FN op.check | ref4.check
structure CV where
 (kd n : Int) (s : ByteArray)
def JjE (c : CV) : Int :=
 bif c.kd == 1 || c.kd == 3 then (bif decide (c.n < 1) || (decide (c.n > 120) || !(c.s.size == 0)) then 1 else 0)
 else bif c.kd == 2 then (bif !(c.n == 0) || c.s.size == 0 then 1 else bif decide (zi c.s.size > 120) then 5 else 0) else 3
def ckC : CV -> Int := hid JjE
theorem Jce (c : CV) : ckC c = JjE c := by rw [ckC, hid_eq]
theorem JjF (s : ByteArray) : XN s (ByteArray.mk (Array.mk [])) = (s.size == 0) := by
 rw [Jom]
 cases h : (s.size == 0) with
 | true =>
  have hs : s.size = 0 := by simpa using h
  refine decide_eq_true (ByteArray.ext (Array.eq_empty_of_size_eq_zero hs))
 | false =>
  refine decide_eq_false fun he => ?_
  rw [he] at h
  exact absurd h (by decide)
theorem Jvp (kd n : Int) (s : ByteArray) (k : KR) : Jvm 0 kd n s k = k ⟨.sc (.int .i64 (ckC ⟨kd, n, s⟩)), [], []⟩ := by
 rw [Jce]
 unfold Jvm JjE
 simp only [JjF, bne]
 have hcomb : (s.size == 0) = true -> decide (zi s.size > 120) = false := fun h => by
  have : s.size = 0 := by simpa using h
  rw [this]; decide
 generalize (s.size == 0) = e0 at *
 generalize decide (zi s.size > 120) = e1 at *
 generalize decide (n < 1) = a
 generalize decide (n > 120) = b
 generalize (n == 0) = c
 generalize (kd == 1) = d1
 generalize (kd == 2) = d2
 generalize (kd == 3) = d3
 cases d1 <;> cases d3 <;> cases d2 <;> cases e0 <;> cases e1 <;> cases a <;> cases b <;> cases c <;> first | rfl | exact absurd (hcomb rfl) (by decide)
def Jhk : Jz
 | [.st 113 [.sc (.int .i64 kd), .sc (.int .i64 n), .sc (.string s)]], [], k => k ⟨.sc (.int .i64 (ckC ⟨kd, n, s⟩)), [], []⟩
 | _, _, _ => none
def Jx9 : Sig := { own := [], run := Jhk }
theorem JAn : Jc tau Try.prog 124 Jx9 := JEZ.of fun xs es k res hr => by
 change Jhk xs es k = some res at hr
 unfold Jhk at hr
 split at hr
 · rename_i kd n s
   exact (Jvp kd n s k).trans hr
 · cases hr
theorem Jvq (kd n : Int) (s : ByteArray) (k : KR) : Jvo 0 kd n s k = k ⟨.sc (.int .i64 (ckC ⟨kd, n, s⟩)), [], []⟩ := by
 rw [Jce]
 unfold Jvo JjE
 simp only [JjF, bne]
 have hcomb : (s.size == 0) = true -> decide (zi s.size > 120) = false := fun h => by
  have : s.size = 0 := by simpa using h
  rw [this]; decide
 generalize (s.size == 0) = e0 at *
 generalize decide (zi s.size > 120) = e1 at *
 generalize decide (n < 1) = a
 generalize decide (n > 120) = b
 generalize (n == 0) = c
 generalize (kd == 1) = d1
 generalize (kd == 2) = d2
 generalize (kd == 3) = d3
 cases d1 <;> cases d3 <;> cases d2 <;> cases e0 <;> cases e1 <;> cases a <;> cases b <;> cases c <;> first | rfl | exact absurd (hcomb rfl) (by decide)
def Jhl : Jz
 | [.st 113 [.sc (.int .i64 kd), .sc (.int .i64 n), .sc (.string s)]], [], k => k ⟨.sc (.int .i64 (ckC ⟨kd, n, s⟩)), [], []⟩
 | _, _, _ => none
def Jya : Sig := { own := [], run := Jhl }
theorem JAo : Jc tau Try.prog 101 Jya := JE3.of fun xs es k res hr => by
 change Jhl xs es k = some res at hr
 unfold Jhl at hr
 split at hr
 · rename_i kd n s
   exact (Jvq kd n s k).trans hr
 · cases hr
def N88 : Nat := 21
def F88 : Fns := Jt 124 Jx9 (F0)
theorem Jrm : Jq tau Try.prog F88 := (Js).add JAn JEY
def Jon : Code := Qd (Try.f88.body.get!) [1, 1, 0, 1, 0, 0]
def Jeg : Nm := [(9, .any), (10, .any), (11, .any)]
def Jhm : Nm := [(2, .any)]
def Jrn : An := (.seq .leaf (.seq (.cond .leaf .leaf) (.seq (.block none (.seq .leaf (.seq .leaf (.seq .leaf (.cond (.seq .leaf .leaf) .leaf))))) .leaf)))
def Jvr (r0 : Qr) : An := (.seq .leaf (.seq (.seq .leaf (.cond (.seq .leaf .leaf) .leaf)) (.seq (.seq .leaf (.block none (.sum Jeg N88 r0))) (.seq .leaf .leaf))))
abbrev Y8 (v2 : List PV) (v4 : Int) := (CV.mk (PV.child 0 (v2.getD v4.toNat PV.top)).int (PV.child (0 + 1) (v2.getD v4.toNat PV.top)).int (PV.child (0 + 1 + 1) (v2.getD v4.toNat PV.top)).str)
def Jax (f : Nat) (rc : Bool -> Bool -> List PV -> Int -> Int -> OR) (k0 : Int -> OR) (k1 : OR) (v0 v1 : Bool) (v2 : List PV) (v3 v4 : Int) : OR := bif decide (v4 < v3) then bif decide (0 <= v4) && decide (v4 < zi v2.length) && (PV.isSt 113 #[Field.mk "Kind" 3 0 false "" "" 0, Field.mk "N" 3 1 false "" "" 8, Field.mk "S" 9 2 false "" "" 16].size (v2.getD v4.toNat PV.top) && (PV.isInt IntKind.i64 (PV.child 0 (v2.getD v4.toNat PV.top)) && (PV.isInt IntKind.i64 (PV.child (0 + 1) (v2.getD v4.toNat PV.top)) && ((PV.child (0 + 1 + 1) (v2.getD v4.toNat PV.top)).isStr && true)))) && true then bif ckC (Y8 v2 v4) != 0 then k0 (ckC (Y8 v2 v4)) else rc v0 v1 v2 v3 (IntKind.i64.wrap (v4 + 1)) else none else k1
def Gs (f : Nat) (k0 : Int -> OR) (k1 : OR) : Nat -> Bool -> Bool -> List PV -> Int -> Int -> OR
 | 0, _, _, _, _, _ => none
 | n + 1, v0, v1, v2, v3, v4 => Jax f (Gs f k0 k1 n) k0 k1 v0 v1 v2 v3 v4
def Jay (k : Kont) := fun x0 => k Ex.ret (Ji Jhm N88 [.sc (.int .i64 x0)] [])
def Jaz (k : Kont) := k (Ex.exit 0) (Ji Jhm N88 [PV.top] [])
def Jlf (f : Nat) (k : Kont) (n : Nat) (v0 v1 : Bool) (v2 : List PV) (v3 v4 : Int) : OR := Jy tau 0 Jeg (fun s k => ev tau F88 0 0 Jon (Jrn ) s k) n (Ji Jeg N88 [.ro 113 v0 v1 v2, .sc (.int .i64 v3), .sc (.int .i64 v4)] []) (JG tau 0 Jhm k)
theorem Jvs (f : Nat) (k : Kont) (n : Nat) (v0 v1 : Bool) (v2 : List PV) (v3 v4 : Int) : Jlf f k (n + 1) v0 v1 v2 v3 v4 = Jax f (Jlf f k n) (Jay k) (Jaz k) v0 v1 v2 v3 v4 := by kernel_rfl
theorem Joo (f : Nat) (k : Kont) : ∀ (n : Nat) (v0 v1 : Bool) (v2 : List PV) (v3 v4 : Int), Jlf f k n v0 v1 v2 v3 v4 = Gs f (Jay k) (Jaz k) n v0 v1 v2 v3 v4 | 0, _, _, _, _, _ => rfl | n + 1, v0, v1, v2, v3, v4 => (Jvs f k n v0 v1 v2 v3 v4).trans (congrArg (fun r => Jax f r (Jay k) (Jaz k) v0 v1 v2 v3 v4) (by funext v0 v1 v2 v3 v4; exact Joo f k n v0 v1 v2 v3 v4))
def Jeh (f : Nat) : List PV -> List (Nat × Ent) -> Kont -> OR
 | [.ro 113 v0 v1 v2, .sc (.int .i64 v3),
 .sc (.int .i64 v4)], [], k => Gs f (Jay k) (Jaz k) f v0 v1 v2 v3 v4
 | _, _, _ => none
theorem JAp (f : Nat) : Jf Jon Jrn = [] := by kernel_rfl
theorem JAq (f : Nat) : (Item.l Jon Jeg N88 (Jeh f)).Ok tau Try.prog 0 := Ju Jn Jrm Jo (x := Jrn) (nm2 := Jhm) (Jk _ _ (by rw [JAp f]; intro q hq; cases hq)) fun vs hp k res hr => by
 unfold Jeh at hr
 split at hr
 · exact ⟨f, 0, (Joo f _ f _ _ _ _ _ ).trans hr⟩
 · cases hr
def g88 (f : Nat) (o_z o_f : Bool) (o : List PV) (k : KR) : OR := bif decide (zi o.length > 40) then k (Res.mk (.sc (.int .i64 4)) [] []) else Gs f (fun x0_0 => k (Res.mk (.sc (.int .i64 x0_0)) [] [])) (k (Res.mk (.sc (.int .i64 0)) [] [])) f o_z o_f o (zi o.length) (0)
theorem e88 (f : Nat) (o_z o_f : Bool) (o : List PV) (k : KR) : JJ tau F88 Try.f88 (Try.f88.body.get!) (Jvr (Jeh f)) [.ro] 0 [.ro 113 o_z o_f o] [] k = g88 f o_z o_f o k := by kernel_rfl
theorem JLI (f : Nat) : Jf (Try.f88.body.get!) (Jvr (Jeh f)) = [.l Jon Jeg N88 (Jeh f)] := by kernel_rfl
theorem JLJ (f : Nat) : ∀ q ∈ Jf (Try.f88.body.get!) (Jvr (Jeh f)), q.Ok tau Try.prog 0 := by rw [JLI f]; exact JL (JAq f) (fun _ h => nomatch h)
theorem JE4 : Try.prog.funcs[88]? = some Try.f88 := by kernel_rfl
theorem JE5 : Try.f88.body = some (Try.f88.body.get!) := by kernel_rfl
theorem JAr : Enters Try.prog 88 := enters_of JE4 (by kernel_rfl) JE5
def N59 : Nat := 22
def F59 : Fns := Jt 101 Jya (F0)
theorem Jro : Jq tau Try.prog F59 := (Js).add JAo JE2
def Jop : Code := Qd (Try.f59.body.get!) [1, 1, 0, 1, 0, 0]
def Jei : Nm := [(0, .any), (3, .any)]
def Jhn : Nm := [(2, .any)]
def Jrp : An := (.seq (.seq .leaf (.cond .leaf .leaf)) (.seq (.block none (.seq .leaf (.seq .leaf (.cond (.seq .leaf .leaf) .leaf)))) .leaf))
def Jvt (r0 : Qr) : An := (.seq .leaf (.seq (.seq .leaf (.cond (.seq .leaf .leaf) .leaf)) (.seq (.seq .leaf (.block none (.sum Jei N59 r0))) (.seq .leaf .leaf))))
abbrev Y9 (v2 : List PV) (v3 : Int) := (CV.mk (PV.child 0 (v2.getD v3.toNat PV.top)).int (PV.child (0 + 1) (v2.getD v3.toNat PV.top)).int (PV.child (0 + 1 + 1) (v2.getD v3.toNat PV.top)).str)
def JaA (f : Nat) (rc : Bool -> Bool -> List PV -> Int -> OR) (k0 : Int -> OR) (k1 : OR) (v0 v1 : Bool) (v2 : List PV) (v3 : Int) : OR := bif decide (v3 < zi v2.length) then bif decide (0 <= v3) && decide (v3 < zi v2.length) && (PV.isSt 113 #[Field.mk "Kind" 3 0 false "" "" 0, Field.mk "N" 3 1 false "" "" 8, Field.mk "S" 9 2 false "" "" 16].size (v2.getD v3.toNat PV.top) && (PV.isInt IntKind.i64 (PV.child 0 (v2.getD v3.toNat PV.top)) && (PV.isInt IntKind.i64 (PV.child (0 + 1) (v2.getD v3.toNat PV.top)) && ((PV.child (0 + 1 + 1) (v2.getD v3.toNat PV.top)).isStr && true)))) && true then bif ckC (Y9 v2 v3) != 0 then k0 (ckC (Y9 v2 v3)) else rc v0 v1 v2 (IntKind.i64.wrap (v3 + 1)) else none else k1
def Gt (f : Nat) (k0 : Int -> OR) (k1 : OR) : Nat -> Bool -> Bool -> List PV -> Int -> OR
 | 0, _, _, _, _ => none
 | n + 1, v0, v1, v2, v3 => JaA f (Gt f k0 k1 n) k0 k1 v0 v1 v2 v3
def JaB (k : Kont) := fun x0 => k Ex.ret (Ji Jhn N59 [.sc (.int .i64 x0)] [])
def JaC (k : Kont) := k (Ex.exit 0) (Ji Jhn N59 [PV.top] [])
def Jlg (f : Nat) (k : Kont) (n : Nat) (v0 v1 : Bool) (v2 : List PV) (v3 : Int) : OR := Jy tau 0 Jei (fun s k => ev tau F59 0 0 Jop (Jrp ) s k) n (Ji Jei N59 [.ro 113 v0 v1 v2, .sc (.int .i64 v3)] []) (JG tau 0 Jhn k)
theorem Jvu (f : Nat) (k : Kont) (n : Nat) (v0 v1 : Bool) (v2 : List PV) (v3 : Int) : Jlg f k (n + 1) v0 v1 v2 v3 = JaA f (Jlg f k n) (JaB k) (JaC k) v0 v1 v2 v3 := by kernel_rfl
theorem Joq (f : Nat) (k : Kont) : ∀ (n : Nat) (v0 v1 : Bool) (v2 : List PV) (v3 : Int), Jlg f k n v0 v1 v2 v3 = Gt f (JaB k) (JaC k) n v0 v1 v2 v3 | 0, _, _, _, _ => rfl | n + 1, v0, v1, v2, v3 => (Jvu f k n v0 v1 v2 v3).trans (congrArg (fun r => JaA f r (JaB k) (JaC k) v0 v1 v2 v3) (by funext v0 v1 v2 v3; exact Joq f k n v0 v1 v2 v3))
def Jej (f : Nat) : List PV -> List (Nat × Ent) -> Kont -> OR
 | [.ro 113 v0 v1 v2,
 .sc (.int .i64 v3)], [], k => Gt f (JaB k) (JaC k) f v0 v1 v2 v3
 | _, _, _ => none
theorem JAs (f : Nat) : Jf Jop Jrp = [] := by kernel_rfl
theorem JAt (f : Nat) : (Item.l Jop Jei N59 (Jej f)).Ok tau Try.prog 0 := Ju Jn Jro Jo (x := Jrp) (nm2 := Jhn) (Jk _ _ (by rw [JAs f]; intro q hq; cases hq)) fun vs hp k res hr => by
 unfold Jej at hr
 split at hr
 · exact ⟨f, 0, (Joq f _ f _ _ _ _ ).trans hr⟩
 · cases hr
def g59 (f : Nat) (o_z o_f : Bool) (o : List PV) (k : KR) : OR := bif decide (zi o.length > 40) then k (Res.mk (.sc (.int .i64 4)) [] []) else Gt f (fun x0_0 => k (Res.mk (.sc (.int .i64 x0_0)) [] [])) (k (Res.mk (.sc (.int .i64 0)) [] [])) f o_z o_f o (0)
theorem e59 (f : Nat) (o_z o_f : Bool) (o : List PV) (k : KR) : JJ tau F59 Try.f59 (Try.f59.body.get!) (Jvt (Jej f)) [.ro] 0 [.ro 113 o_z o_f o] [] k = g59 f o_z o_f o k := by kernel_rfl
theorem JLK (f : Nat) : Jf (Try.f59.body.get!) (Jvt (Jej f)) = [.l Jop Jei N59 (Jej f)] := by kernel_rfl
theorem JLL (f : Nat) : ∀ q ∈ Jf (Try.f59.body.get!) (Jvt (Jej f)), q.Ok tau Try.prog 0 := by rw [JLK f]; exact JL (JAt f) (fun _ h => nomatch h)
theorem JE6 : Try.prog.funcs[59]? = some Try.f59 := by kernel_rfl
theorem JE7 : Try.f59.body = some (Try.f59.body.get!) := by kernel_rfl
theorem JAu : Enters Try.prog 59 := enters_of JE6 (by kernel_rfl) JE7
-- FN op.Check | ref4.Check | law4.Few
def isCp : PV -> Bool
 | .st t [.sc (.int .i64 _), .sc (.int .i64 _), .sc (.string _)] => t == 113
 | _ => false
theorem JjG {p : PV} : isCp p = true ↔ ∃ kd n s, p = .st 113 [.sc (.int .i64 kd), .sc (.int .i64 n), .sc (.string s)] := by
 constructor
 · intro h
   unfold isCp at h
   split at h
   · rename_i t kd n s
     obtain rfl : t = 113 := by simpa using h
     exact ⟨kd, n, s, rfl⟩
   · cases h
 · rintro ⟨kd, n, s, rfl⟩; rfl
def cv (p : PV) : CV := ⟨(p.child 0).int, (p.child 1).int, (p.child 2).str⟩
theorem XI {p : PV} (h : isCp p = true) : (PV.isSt 113 #[Field.mk "Kind" 3 0 false "" "" 0, Field.mk "N" 3 1 false "" "" 8, Field.mk "S" 9 2 false "" "" 16].size p && (PV.isInt IntKind.i64 (PV.child 0 p) && (PV.isInt IntKind.i64 (PV.child (0 + 1) p) && ((PV.child (0 + 1 + 1) p).isStr && true)))) = true := by
 obtain ⟨kd, n, s, rfl⟩ := JjG.1 h
 simp [PV.isSt, PV.child, PV.isInt, PV.isStr]
theorem WS {l : List PV} (h : l.all isCp = true) {i : Nat} (hi : i < l.length) : isCp (l.getD i .top) = true := by
 rw [List.getD_eq_getElem?_getD, List.getElem?_eq_getElem hi]
 exact List.all_eq_true.1 h _ (List.getElem_mem hi)
def ckL : List PV -> Int
 | [] => 0
 | p :: r => bif ckC (cv p) == 0 then ckL r else ckC (cv p)
def Jqt (l : List PV) : Int := bif decide (zi l.length > 40) then 4 else ckL l
def ckO : List PV -> Int := hid Jqt
theorem Jho (l : List PV) : ckO l = Jqt l := by rw [ckO, hid_eq]
def cOk : List PV -> Bool := hid fun l => l.all isCp && Nat.ble l.length 9223372036854775807
theorem Yf {l : List PV} : cOk l = true ↔ l.all isCp = true /\ l.length <= 9223372036854775807 := by
 rw [cOk, hid_eq, Bool.and_eq_true, Nat.ble_eq]
theorem JW {l : List PV} {i : Nat} (h : i < l.length) : l.drop i = l.getD i .top :: l.drop (i + 1) := by
 rw [List.drop_eq_getElem_cons h]; simp [List.getD_eq_getElem?_getD, h]
theorem Jyb (l : List PV) (h1 : l.all isCp = true) (h2 : l.length <= 40) (f : Nat) (k0 : Int -> OR) (k1 : OR) (z fl : Bool) : ∀ (d i n : Nat), i + d = l.length -> d < n ->
  Gs f k0 k1 n z fl l (zi l.length) (i : Int) = bif ckL (l.drop i) == 0 then k1 else k0 (ckL (l.drop i))
 | 0, i, n + 1, hi, hn => by
   rw [List.drop_of_length_le (by omega)]
   simp only [Gs, Jax, Y8]
   exact Jd (by simp [zi]; omega)
 | d + 1, i, n + 1, hi, hn => by
   have g1 : ((i : Int)).toNat = i := by omega
   have w1 : IntKind.i64.wrap ((i : Int) + 1) = ((i + 1 : Nat) : Int) := by rw [wrap_i64 (by omega) (by omega)]; omega
   have hro : (decide (0 <= (i : Int)) && decide ((i : Int) < zi l.length) && (PV.isSt 113 #[Field.mk "Kind" 3 0 false "" "" 0, Field.mk "N" 3 1 false "" "" 8, Field.mk "S" 9 2 false "" "" 16].size (l.getD i PV.top) && (PV.isInt IntKind.i64 (PV.child 0 (l.getD i PV.top)) && (PV.isInt IntKind.i64 (PV.child (0 + 1) (l.getD i PV.top)) && ((PV.child (0 + 1 + 1) (l.getD i PV.top)).isStr && true)))) && true) = true := by
    have hq : (PV.isSt 113 #[Field.mk "Kind" 3 0 false "" "" 0, Field.mk "N" 3 1 false "" "" 8, Field.mk "S" 9 2 false "" "" 16].size (l.getD i PV.top) && (PV.isInt IntKind.i64 (PV.child 0 (l.getD i PV.top)) && (PV.isInt IntKind.i64 (PV.child (0 + 1) (l.getD i PV.top)) && ((PV.child (0 + 1 + 1) (l.getD i PV.top)).isStr && true)))) = true := XI (WS h1 (by omega))
    rw [hq]; simp [zi]; omega
   have hd := JW (l := l) (i := i) (by omega)
   have hs : CV.mk (PV.child 0 (l.getD i PV.top)).int (PV.child (0 + 1) (l.getD i PV.top)).int (PV.child (0 + 1 + 1) (l.getD i PV.top)).str = cv (l.getD i .top) := rfl
   simp only [Gs, Jax, Y8, g1, w1, hs]
   refine (Ja (by simp [zi]; omega)).trans ((Ja hro).trans ?_)
   rw [hd]
   cases hc : (ckC (cv (l.getD i .top)) == 0) with
   | true =>
    refine (Jd (by simp only [bne, hc]; rfl)).trans ?_
    rw [Jyb l h1 h2 f k0 k1 z fl d (i + 1) n (by omega) (by omega)]
    simp only [ckL, hc, cond_true]
   | false =>
    refine (Ja (by simp only [bne, hc]; rfl)).trans ?_
    simp only [ckL, hc, cond_false]
def Jlh : Jz
 | [.ro 113 z f l], [], k => bif cOk l then k ⟨.sc (.int .i64 (ckO l)), [], []⟩ else none
 | _, _, _ => none
def Jvv : Sig := { own := [], run := Jlh }
theorem JAv (z f : Bool) (l : List PV) (h : cOk l = true) (k : KR) : g88 50 z f l k = k ⟨.sc (.int .i64 (ckO l)), [], []⟩ := by
 obtain ⟨h1, h2⟩ := Yf.1 h
 rw [Jho]
 unfold g88 Jqt
 cases hc : decide (zi l.length > 40) with
 | true => rfl
 | false =>
  have hl : l.length <= 40 := by simp only [zi, decide_eq_false_iff_not] at hc; omega
  rw [cond_false, cond_false]
  refine (Jyb l h1 hl 50 _ _ z f l.length 0 50 (by omega) (by omega)).trans ?_
  rw [List.drop_zero]
  cases h0 : (ckL l == 0) with
  | true =>
   have : ckL l = 0 := by simpa using h0
   rw [this]; rfl
  | false => rfl
theorem Jrq : Jc tau Try.prog 88 Jvv := Jc.mk' fun xs es k res hl hr => by
 change Jlh xs es k = some res at hr
 unfold Jlh at hr
 split at hr
 · rename_i z f l
   obtain ⟨hc, hr⟩ := Jv hr
   exact J2 Jn Jrm Jo JE4 JE5 (Jvr (Jeh 50)) [.ro] 0 0 (JLJ 50) hl rfl ((e88 50 z f l k).trans ((JAv z f l hc k).trans hr))
 · cases hr
theorem Jyc (l : List PV) (h1 : l.all isCp = true) (h2 : l.length <= 40) (f : Nat) (k0 : Int -> OR) (k1 : OR) (z fl : Bool) : ∀ (d i n : Nat), i + d = l.length -> d < n ->
  Gt f k0 k1 n z fl l (i : Int) = bif ckL (l.drop i) == 0 then k1 else k0 (ckL (l.drop i))
 | 0, i, n + 1, hi, hn => by
   rw [List.drop_of_length_le (by omega)]
   simp only [Gt, JaA, Y9]
   exact Jd (by simp [zi]; omega)
 | d + 1, i, n + 1, hi, hn => by
   have g1 : ((i : Int)).toNat = i := by omega
   have w1 : IntKind.i64.wrap ((i : Int) + 1) = ((i + 1 : Nat) : Int) := by rw [wrap_i64 (by omega) (by omega)]; omega
   have hro : (decide (0 <= (i : Int)) && decide ((i : Int) < zi l.length) && (PV.isSt 113 #[Field.mk "Kind" 3 0 false "" "" 0, Field.mk "N" 3 1 false "" "" 8, Field.mk "S" 9 2 false "" "" 16].size (l.getD i PV.top) && (PV.isInt IntKind.i64 (PV.child 0 (l.getD i PV.top)) && (PV.isInt IntKind.i64 (PV.child (0 + 1) (l.getD i PV.top)) && ((PV.child (0 + 1 + 1) (l.getD i PV.top)).isStr && true)))) && true) = true := by
    have hq : (PV.isSt 113 #[Field.mk "Kind" 3 0 false "" "" 0, Field.mk "N" 3 1 false "" "" 8, Field.mk "S" 9 2 false "" "" 16].size (l.getD i PV.top) && (PV.isInt IntKind.i64 (PV.child 0 (l.getD i PV.top)) && (PV.isInt IntKind.i64 (PV.child (0 + 1) (l.getD i PV.top)) && ((PV.child (0 + 1 + 1) (l.getD i PV.top)).isStr && true)))) = true := XI (WS h1 (by omega))
    rw [hq]; simp [zi]; omega
   have hd := JW (l := l) (i := i) (by omega)
   have hs : CV.mk (PV.child 0 (l.getD i PV.top)).int (PV.child (0 + 1) (l.getD i PV.top)).int (PV.child (0 + 1 + 1) (l.getD i PV.top)).str = cv (l.getD i .top) := rfl
   simp only [Gt, JaA, Y9, g1, w1, hs]
   refine (Ja (by simp [zi]; omega)).trans ((Ja hro).trans ?_)
   rw [hd]
   cases hc : (ckC (cv (l.getD i .top)) == 0) with
   | true =>
    refine (Jd (by simp only [bne, hc]; rfl)).trans ?_
    rw [Jyc l h1 h2 f k0 k1 z fl d (i + 1) n (by omega) (by omega)]
    simp only [ckL, hc, cond_true]
   | false =>
    refine (Ja (by simp only [bne, hc]; rfl)).trans ?_
    simp only [ckL, hc, cond_false]
def Jli : Jz
 | [.ro 113 z f l], [], k => bif cOk l then k ⟨.sc (.int .i64 (ckO l)), [], []⟩ else none
 | _, _, _ => none
def Jvw : Sig := { own := [], run := Jli }
theorem JAw (z f : Bool) (l : List PV) (h : cOk l = true) (k : KR) : g59 50 z f l k = k ⟨.sc (.int .i64 (ckO l)), [], []⟩ := by
 obtain ⟨h1, h2⟩ := Yf.1 h
 rw [Jho]
 unfold g59 Jqt
 cases hc : decide (zi l.length > 40) with
 | true => rfl
 | false =>
  have hl : l.length <= 40 := by simp only [zi, decide_eq_false_iff_not] at hc; omega
  rw [cond_false, cond_false]
  refine (Jyc l h1 hl 50 _ _ z f l.length 0 50 (by omega) (by omega)).trans ?_
  rw [List.drop_zero]
  cases h0 : (ckL l == 0) with
  | true =>
   have : ckL l = 0 := by simpa using h0
   rw [this]; rfl
  | false => rfl
theorem Jrr : Jc tau Try.prog 59 Jvw := Jc.mk' fun xs es k res hl hr => by
 change Jli xs es k = some res at hr
 unfold Jli at hr
 split at hr
 · rename_i z f l
   obtain ⟨hc, hr⟩ := Jv hr
   exact J2 Jn Jro Jo JE6 JE7 (Jvt (Jej 50)) [.ro] 0 0 (JLL 50) hl rfl ((e59 50 z f l k).trans ((JAw z f l hc k).trans hr))
 · cases hr



def F74 : Fns := F0
theorem JAx : Jq tau Try.prog F74 := Js
def JAy : An := (.seq .leaf (.seq .leaf .leaf))
def g74 (f : Nat) (a_D a_U : Int) (k : KR) : OR := bif decide (a_D >= 0) then bif decide (a_D < 3) then bif decide (a_U >= 0) then k (Res.mk (.sc (.bool (decide (a_U < 8)))) [] []) else k (Res.mk (.sc (.bool false)) [] []) else k (Res.mk (.sc (.bool false)) [] []) else k (Res.mk (.sc (.bool false)) [] [])
theorem e74 (f : Nat) (a_D a_U : Int) (k : KR) : JJ tau F74 Try.f74 (Try.f74.body.get!) JAy [.ro] 0 [.st 42 [.sc (.int .i64 a_D), .sc (.int .i64 a_U)]] [] k = g74 f a_D a_U k := by kernel_rfl
theorem JLM (f : Nat) : ∀ q ∈ Jf (Try.f74.body.get!) JAy, q.Ok tau Try.prog 0 := Jw (by kernel_rfl)
theorem JE8 : Try.prog.funcs[74]? = some Try.f74 := by kernel_rfl
theorem JE9 : Try.f74.body = some (Try.f74.body.get!) := by kernel_rfl
theorem JFa : Enters Try.prog 74 := enters_of JE8 (by kernel_rfl) JE9
def Jrs : Jz
 | [.st 42 [.sc (.int .i64 a_D), .sc (.int .i64 a_U)]], [], k => g74 0 a_D a_U k
 | _, _, _ => none
def s74 : Sig := { own := [], run := Jrs }
theorem JLN : Jc tau Try.prog 74 s74 := JN Jn JAx Jo JE8 JE9 JAy [.ro] 0 [] Jrs (JLM 0) fun xs es k res hr => by
 unfold Jrs at hr
 split at hr
 · exact ⟨rfl, 0, (e74 0 _ _  _).trans hr⟩
 · cases hr
-- FN ref16.domain | ref16.Wave | ref16.number | ref8.User
def inZ (x m : Int) : Bool := decide (x >= 0) && decide (x <= m)
def Jvx : List Int -> Bool
 | x :: m :: r => inZ x m && Jvx r
 | _ => true
def inA : List Int -> Bool := hid Jvx
theorem JAz (l : List Int) : inA l = Jvx l := by rw [inA, hid_eq]
theorem JjH (a b c d : Int) : inA [a, b, c, d] = (inZ a b && inZ c d) := by rw [JAz]; simp [Jvx]
def Jlj : Jz
 | [.st 42 [.sc (.int .i64 a), .sc (.int .i64 b)]], [], k => k ⟨.sc (.bool (inA [a, 2, b, 7])), [], []⟩
 | _, _, _ => none
def JAA : Sig := { own := [], run := Jlj }
theorem Jyd : Jc tau Try.prog 74 JAA := JLN.of fun xs es k res hr => by
 change Jlj xs es k = some res at hr
 unfold Jlj at hr
 split at hr
 · rename_i a b
   show g74 0 a b k = some res
   rw [JjH] at hr
   unfold g74
   unfold inZ at hr
   by_cases h1 : a >= 0 <;> by_cases h2 : a < 3 <;> by_cases h3 : b >= 0 <;> by_cases h4 : b < 8 <;> simp [h1, h2, h3, h4, show (a <= 2) ↔ (a < 3) from by omega, show (b <= 7) ↔ (b < 8) from by omega] at hr ⊢ <;> exact hr
 · cases hr
def JFb : Fns := F0
theorem Jvy : Jq tau Try.prog JFb := Js
def Jrt : An := (.seq .leaf (.seq .leaf .leaf))
def JFc (f : Nat) (n most : Int) (k : KR) : OR := bif decide (n >= 0) then k (Res.mk (.sc (.bool (decide (n <= most)))) [] []) else k (Res.mk (.sc (.bool false)) [] [])
theorem JLO (f : Nat) (n most : Int) (k : KR) : JJ tau JFb Try.f122 (Try.f122.body.get!) Jrt [.ro] 0 [.sc (.int .i64 n), .sc (.int .i64 most)] [] k = JFc f n most k := by kernel_rfl
theorem JFd (f : Nat) : ∀ q ∈ Jf (Try.f122.body.get!) Jrt, q.Ok tau Try.prog 0 := Jw (by kernel_rfl)
theorem Jye : Try.prog.funcs[122]? = some Try.f122 := by kernel_rfl
theorem Jyf : Try.f122.body = some (Try.f122.body.get!) := by kernel_rfl
theorem Jyg : Enters Try.prog 122 := enters_of Jye (by kernel_rfl) Jyf
def Jlk : Jz
 | [.sc (.int .i64 n), .sc (.int .i64 most)], [], k => JFc 0 n most k
 | _, _, _ => none
def JAB : Sig := { own := [], run := Jlk }
theorem Jyh : Jc tau Try.prog 122 JAB := JN Jn Jvy Jo Jye Jyf Jrt [.ro] 0 [] Jlk (JFd 0) fun xs es k res hr => by
 unfold Jlk at hr
 split at hr
 · exact ⟨rfl, 0, (JLO 0 _ _  _).trans hr⟩
 · cases hr
def JFe : Fns := Jt 122 JAB (F0)
theorem Jvz : Jq tau Try.prog JFe := (Js).add Jyh Jyg
def Jru : An := (.seq .leaf (.seq .leaf .leaf))
def JFf (f : Nat) (a_D a_U : Int) (k : KR) : OR := bif decide (a_D >= 0) then bif decide (a_D <= 2) then bif decide (a_U >= 0) then k (Res.mk (.sc (.bool (decide (a_U <= 7)))) [] []) else k (Res.mk (.sc (.bool false)) [] []) else k (Res.mk (.sc (.bool false)) [] []) else k (Res.mk (.sc (.bool false)) [] [])
theorem JLP (f : Nat) (a_D a_U : Int) (k : KR) : JJ tau JFe Try.f121 (Try.f121.body.get!) Jru [.ro] 0 [.st 42 [.sc (.int .i64 a_D), .sc (.int .i64 a_U)]] [] k = JFf f a_D a_U k := by kernel_rfl
theorem JFg (f : Nat) : ∀ q ∈ Jf (Try.f121.body.get!) Jru, q.Ok tau Try.prog 0 := Jw (by kernel_rfl)
theorem Jyi : Try.prog.funcs[121]? = some Try.f121 := by kernel_rfl
theorem Jyj : Try.f121.body = some (Try.f121.body.get!) := by kernel_rfl
theorem JFh : Enters Try.prog 121 := enters_of Jyi (by kernel_rfl) Jyj
def Jll : Jz
 | [.st 42 [.sc (.int .i64 a_D), .sc (.int .i64 a_U)]], [], k => JFf 0 a_D a_U k
 | _, _, _ => none
def JFi : Sig := { own := [], run := Jll }
theorem JFj : Jc tau Try.prog 121 JFi := JN Jn Jvz Jo Jyi Jyj Jru [.ro] 0 [] Jll (JFg 0) fun xs es k res hr => by
 unfold Jll at hr
 split at hr
 · exact ⟨rfl, 0, (JLP 0 _ _  _).trans hr⟩
 · cases hr
def F85 : Fns := Jt 122 JAB (Jt 121 JFi (Jt 88 Jvv (F0)))
theorem JAC : Jq tau Try.prog F85 := (((Js).add Jrq JAr).add JFj JFh).add Jyh Jyg
def JAD : An := (.seq .leaf (.seq (.seq .leaf (.cond (.seq .leaf .leaf) .leaf)) (.seq (.seq .leaf (.block none (.seq .leaf (.cond (.seq (.seq .leaf (.seq .leaf (.cond (.seq .leaf .leaf) .leaf))) (.seq .leaf (.cond (.seq .leaf .leaf) .leaf))) (.seq (.seq .leaf (.cond .leaf .leaf)) (.cond (.seq .leaf (.cond (.seq .leaf .leaf) .leaf)) (.seq .leaf .leaf))))))) (.seq .leaf .leaf))))
def g85 (f : Nat) (y0 y1 d_Id y2 : Int) (y3 : List PV) (y4 : Int) (y5 y6 : Bool) (d_Op : List PV) (y7 y8 : Int) (k : KR) : OR := bif decide (y0 >= 0) then bif decide (y0 <= 2) then bif decide (y1 >= 0) then bif !decide (y1 <= 7) then k (Res.mk (.sc (.int .i64 1)) [] []) else bif decide (d_Id >= 0) then bif !decide (d_Id <= 1073741824) then k (Res.mk (.sc (.int .i64 1)) [] []) else bif decide (y2 >= 0) then bif !decide (y2 <= 1048576) then k (Res.mk (.sc (.int .i64 1)) [] []) else bif y4 == 1 then bif cOk d_Op then bif ckO d_Op != 0 then k (Res.mk (.sc (.int .i64 (ckO d_Op))) [] []) else bif !(y7 == 0 && (y8 == 0 && true)) then k (Res.mk (.sc (.int .i64 1)) [] []) else k (Res.mk (.sc (.int .i64 0)) [] []) else none else bif y4 == 2 then bif y4 == 2 then bif decide (zi d_Op.length > 0) then k (Res.mk (.sc (.int .i64 1)) [] []) else bif decide (y7 >= 0) then bif decide (y7 <= 2) then bif decide (y8 >= 0) then bif !decide (y8 <= 7) then k (Res.mk (.sc (.int .i64 1)) [] []) else k (Res.mk (.sc (.int .i64 0)) [] []) else k (Res.mk (.sc (.int .i64 1)) [] []) else k (Res.mk (.sc (.int .i64 1)) [] []) else k (Res.mk (.sc (.int .i64 1)) [] []) else k (Res.mk (.sc (.int .i64 3)) [] []) else bif y4 == 3 then bif decide (zi d_Op.length > 0) then k (Res.mk (.sc (.int .i64 1)) [] []) else bif decide (y7 >= 0) then bif decide (y7 <= 2) then bif decide (y8 >= 0) then bif !decide (y8 <= 7) then k (Res.mk (.sc (.int .i64 1)) [] []) else k (Res.mk (.sc (.int .i64 0)) [] []) else k (Res.mk (.sc (.int .i64 1)) [] []) else k (Res.mk (.sc (.int .i64 1)) [] []) else k (Res.mk (.sc (.int .i64 1)) [] []) else k (Res.mk (.sc (.int .i64 3)) [] []) else k (Res.mk (.sc (.int .i64 1)) [] []) else k (Res.mk (.sc (.int .i64 1)) [] []) else k (Res.mk (.sc (.int .i64 1)) [] []) else k (Res.mk (.sc (.int .i64 1)) [] []) else k (Res.mk (.sc (.int .i64 1)) [] [])
theorem e85 (f : Nat) (y0 y1 d_Id y2 : Int) (y3 : List PV) (y4 : Int) (y5 y6 : Bool) (d_Op : List PV) (y7 y8 : Int) (k : KR) : JJ tau F85 Try.f85 (Try.f85.body.get!) JAD [.ro] 0 [.st 53 [.st 42 [.sc (.int .i64 y0), .sc (.int .i64 y1)], .sc (.int .i64 d_Id), .sc (.int .i64 y2), .ar 37 y3, .sc (.int .i64 y4), .ro 113 y5 y6 d_Op, .st 42 [.sc (.int .i64 y7), .sc (.int .i64 y8)]]] [] k = g85 f y0 y1 d_Id y2 y3 y4 y5 y6 d_Op y7 y8 k := by kernel_rfl
theorem JLQ (f : Nat) : ∀ q ∈ Jf (Try.f85.body.get!) JAD, q.Ok tau Try.prog 0 := Jw (by kernel_rfl)
theorem JFk : Try.prog.funcs[85]? = some Try.f85 := by kernel_rfl
theorem JFl : Try.f85.body = some (Try.f85.body.get!) := by kernel_rfl
theorem JLR : Enters Try.prog 85 := enters_of JFk (by kernel_rfl) JFl
def Jrv : Jz
 | [.st 53 [.st 42 [.sc (.int .i64 y0), .sc (.int .i64 y1)], .sc (.int .i64 d_Id), .sc (.int .i64 y2), .ar 37 y3, .sc (.int .i64 y4), .ro 113 y5 y6 d_Op, .st 42 [.sc (.int .i64 y7), .sc (.int .i64 y8)]]], [], k => g85 0 y0 y1 d_Id y2 y3 y4 y5 y6 d_Op y7 y8 k
 | _, _, _ => none
def s85 : Sig := { own := [], run := Jrv }
theorem JLS : Jc tau Try.prog 85 s85 := JN Jn JAC Jo JFk JFl JAD [.ro] 0 [] Jrv (JLQ 0) fun xs es k res hr => by
 unfold Jrv at hr
 split at hr
 · exact ⟨rfl, 0, (e85 0 _ _ _ _ _ _ _ _ _ _ _  _).trans hr⟩
 · cases hr
def F50 : Fns := Jt 74 JAA (Jt 59 Jvw (F0))
theorem JAE : Jq tau Try.prog F50 := ((Js).add Jrr JAu).add Jyd JFa
def JAF : An := (.seq .leaf (.seq (.seq .leaf (.cond (.seq .leaf .leaf) .leaf)) (.seq (.seq .leaf (.block none (.seq .leaf (.cond (.seq .leaf (.seq (.seq .leaf (.cond (.seq .leaf .leaf) .leaf)) (.seq .leaf (.cond (.seq .leaf .leaf) .leaf)))) (.seq (.seq .leaf (.cond .leaf .leaf)) (.cond (.seq .leaf (.cond (.seq .leaf .leaf) .leaf)) (.seq .leaf .leaf))))))) (.seq .leaf .leaf))))
def g50 (f : Nat) (y0 y1 d_Id y2 : Int) (y3 : List PV) (y4 : Int) (y5 y6 : Bool) (d_Op : List PV) (y7 y8 : Int) (k : KR) : OR := bif !inA [y0, 2, y1, 7] then k (Res.mk (.sc (.int .i64 1)) [] []) else bif decide (d_Id < 0) then k (Res.mk (.sc (.int .i64 1)) [] []) else bif decide (d_Id > 1073741824) then k (Res.mk (.sc (.int .i64 1)) [] []) else bif decide (y2 < 0) then k (Res.mk (.sc (.int .i64 1)) [] []) else bif decide (y2 > 1048576) then k (Res.mk (.sc (.int .i64 1)) [] []) else bif y4 == 1 then bif cOk d_Op then bif ckO d_Op != 0 then k (Res.mk (.sc (.int .i64 (ckO d_Op))) [] []) else bif !(y7 == 0 && (y8 == 0 && true)) then k (Res.mk (.sc (.int .i64 1)) [] []) else k (Res.mk (.sc (.int .i64 0)) [] []) else none else bif y4 == 2 then bif y4 == 2 then bif decide (zi d_Op.length > 0) then k (Res.mk (.sc (.int .i64 1)) [] []) else bif !inA [y7, 2, y8, 7] then k (Res.mk (.sc (.int .i64 1)) [] []) else k (Res.mk (.sc (.int .i64 0)) [] []) else k (Res.mk (.sc (.int .i64 3)) [] []) else bif y4 == 3 then bif decide (zi d_Op.length > 0) then k (Res.mk (.sc (.int .i64 1)) [] []) else bif !inA [y7, 2, y8, 7] then k (Res.mk (.sc (.int .i64 1)) [] []) else k (Res.mk (.sc (.int .i64 0)) [] []) else k (Res.mk (.sc (.int .i64 3)) [] [])
theorem e50 (f : Nat) (y0 y1 d_Id y2 : Int) (y3 : List PV) (y4 : Int) (y5 y6 : Bool) (d_Op : List PV) (y7 y8 : Int) (k : KR) : JJ tau F50 Try.f50 (Try.f50.body.get!) JAF [.ro] 0 [.st 53 [.st 42 [.sc (.int .i64 y0), .sc (.int .i64 y1)], .sc (.int .i64 d_Id), .sc (.int .i64 y2), .ar 37 y3, .sc (.int .i64 y4), .ro 113 y5 y6 d_Op, .st 42 [.sc (.int .i64 y7), .sc (.int .i64 y8)]]] [] k = g50 f y0 y1 d_Id y2 y3 y4 y5 y6 d_Op y7 y8 k := by kernel_rfl
theorem JLT (f : Nat) : ∀ q ∈ Jf (Try.f50.body.get!) JAF, q.Ok tau Try.prog 0 := Jw (by kernel_rfl)
theorem JFm : Try.prog.funcs[50]? = some Try.f50 := by kernel_rfl
theorem JFn : Try.f50.body = some (Try.f50.body.get!) := by kernel_rfl
theorem JLU : Enters Try.prog 50 := enters_of JFm (by kernel_rfl) JFn
def Jrw : Jz
 | [.st 53 [.st 42 [.sc (.int .i64 y0), .sc (.int .i64 y1)], .sc (.int .i64 d_Id), .sc (.int .i64 y2), .ar 37 y3, .sc (.int .i64 y4), .ro 113 y5 y6 d_Op, .st 42 [.sc (.int .i64 y7), .sc (.int .i64 y8)]]], [], k => g50 0 y0 y1 d_Id y2 y3 y4 y5 y6 d_Op y7 y8 k
 | _, _, _ => none
def s50 : Sig := { own := [], run := Jrw }
theorem JLV : Jc tau Try.prog 50 s50 := JN Jn JAE Jo JFm JFn JAF [.ro] 0 [] Jrw (JLT 0) fun xs es k res hr => by
 unfold Jrw at hr
 split at hr
 · exact ⟨rfl, 0, (e50 0 _ _ _ _ _ _ _ _ _ _ _  _).trans hr⟩
 · cases hr





def JFo : Fns := F0
theorem JvA : Jq tau Try.prog JFo := Js
def Jrx : An := (.seq .leaf (.cond .leaf .leaf))
def JFp (f : Nat) (y0 y1 : Bool) (r_b : List PV) (r_e e : Int) (k : KR) : OR := bif r_e == 0 then k (Res.mk (.tup []) [.box false 166 (PV.st 166 [.ro 5 y0 y1 r_b, .sc (.int .i64 e)])] []) else k (Res.mk (.tup []) [.box false 166 (PV.st 166 [.ro 5 y0 y1 r_b, .sc (.int .i64 r_e)])] [])
theorem JLW (f : Nat) (y0 y1 : Bool) (r_b : List PV) (r_e e : Int) (k : KR) : JJ tau JFo Try.f107 (Try.f107.body.get!) Jrx [] 0 [.ptr 0 [], .sc (.int .i64 e)] [.box false 166 (.st 166 [.ro 5 y0 y1 r_b, .sc (.int .i64 r_e)])] k = JFp f y0 y1 r_b r_e e k := by kernel_rfl
theorem JFq (f : Nat) : ∀ q ∈ Jf (Try.f107.body.get!) Jrx, q.Ok tau Try.prog 1 := Jw (by kernel_rfl)
theorem Jyk : Try.prog.funcs[107]? = some Try.f107 := by kernel_rfl
theorem Jyl : Try.f107.body = some (Try.f107.body.get!) := by kernel_rfl
theorem Jym : Enters Try.prog 107 := enters_of Jyk (by kernel_rfl) Jyl
def Jlm : Jz
 | [.ptr 0 [], .sc (.int .i64 e)], [.box false 166 (.st 166 [.ro 5 y0 y1 r_b, .sc (.int .i64 r_e)])], k => JFp 0 y0 y1 r_b r_e e k
 | _, _, _ => none
def JAG : Sig := { own := [], run := Jlm }
theorem Jyn : Jc tau Try.prog 107 JAG := JN Jn JvA Jo Jyk Jyl Jrx [] 1 [] Jlm (JFq 0) fun xs es k res hr => by
 unfold Jlm at hr
 split at hr
 · exact ⟨rfl, 0, (JLW 0 _ _ _ _ _  _).trans hr⟩
 · cases hr
def JFr : Fns := Jt 107 JAG (F0)
theorem JvB : Jq tau Try.prog JFr := (Js).add Jyn Jym
def Jry : An := (.seq .leaf (.seq (.seq .leaf (.cond .leaf .leaf)) (.seq (.seq .leaf (.cond (.seq .leaf .leaf) .leaf)) (.seq .leaf (.seq .leaf (.seq .leaf .leaf))))))
abbrev Jhp (y0 : Bool) (y1 : Bool) (r_b : List PV) (r_e : Int) (n : Int) := (Res.mk (PV.ro 5 y0 (y0 || y1 && false) (List.take n.toNat r_b)) [.box false 166 (PV.st 166 [PV.ro 5 y0 (y0 || y1 && true) (List.drop n.toNat (List.take r_b.length r_b)), PV.sc (.int .i64 r_e)])] [])
def JvC (f : Nat) (y0 y1 : Bool) (r_b : List PV) (r_e n : Int) (k : KR) : OR := bif decide (n > zi r_b.length) then bif r_e == 0 then k (Res.mk (.ro 5 true true []) [.box false 166 (PV.st 166 [.ro 5 y0 y1 r_b, .sc (.int .i64 8)])] []) else bif r_e != 0 then k (Res.mk (.ro 5 true true []) [.box false 166 (PV.st 166 [.ro 5 y0 y1 r_b, .sc (.int .i64 r_e)])] []) else bif decide (0 <= n) && true && decide (n.toNat <= r_b.length) && true then bif decide (0 <= n) && true && decide (n.toNat <= r_b.length) && decide (r_b.length <= r_b.length) && true then k (Jhp y0 y1 r_b r_e n) else none else none else bif r_e != 0 then k (Res.mk (.ro 5 true true []) [.box false 166 (PV.st 166 [.ro 5 y0 y1 r_b, .sc (.int .i64 r_e)])] []) else bif decide (0 <= n) && true && decide (n.toNat <= r_b.length) && true then bif decide (0 <= n) && true && decide (n.toNat <= r_b.length) && decide (r_b.length <= r_b.length) && true then k (Jhp y0 y1 r_b r_e n) else none else none
theorem JLX (f : Nat) (y0 y1 : Bool) (r_b : List PV) (r_e n : Int) (k : KR) : JJ tau JFr Try.f119 (Try.f119.body.get!) Jry [.ro] 0 [.ptr 0 [], .sc (.int .i64 n)] [.box false 166 (.st 166 [.ro 5 y0 y1 r_b, .sc (.int .i64 r_e)])] k = JvC f y0 y1 r_b r_e n k := by kernel_rfl
theorem JFs (f : Nat) : ∀ q ∈ Jf (Try.f119.body.get!) Jry, q.Ok tau Try.prog 1 := Jw (by kernel_rfl)
theorem Jyo : Try.prog.funcs[119]? = some Try.f119 := by kernel_rfl
theorem Jyp : Try.f119.body = some (Try.f119.body.get!) := by kernel_rfl
theorem Jyq : Enters Try.prog 119 := enters_of Jyo (by kernel_rfl) Jyp
def Jln : Jz
 | [.ptr 0 [], .sc (.int .i64 n)], [.box false 166 (.st 166 [.ro 5 y0 y1 r_b, .sc (.int .i64 r_e)])], k => JvC 0 y0 y1 r_b r_e n k
 | _, _, _ => none
def JLY : Sig := { own := [], run := Jln }
theorem JFt : Jc tau Try.prog 119 JLY := JN Jn JvB Jo Jyo Jyp Jry [.ro] 1 [] Jln (JFs 0) fun xs es k res hr => by
 unfold Jln at hr
 split at hr
 · exact ⟨rfl, 0, (JLX 0 _ _ _ _ _  _).trans hr⟩
 · cases hr
structure RS where
 b : List PV
 e : Int
def byB (l : List PV) : Bool := l.all fun p => p.isInt .u8 && (decide (0 <= p.int) && decide (p.int < 256))
def WT : List Int -> Int
 | [] => 0
 | x :: r => x + 256 * WT r
def Xv (n : Nat) (s : RS) : Bool := s.e == 0 && Nat.ble n s.b.length
def Qh (n : Nat) (s : RS) : RS := bif Xv n s then ⟨s.b.drop n, 0⟩ else ⟨s.b, bif s.e == 0 then 8 else s.e⟩
def J7 (n : Nat) (s : RS) : List PV := bif Xv n s then s.b.take n else []
def WJ (n : Nat) (s : RS) : Int := IntKind.i64.wrap (WT (JD (J7 n s)))
def okS : Nat -> RS -> Bool := hid Xv
def V8 : Nat -> RS -> List PV := hid J7
theorem Jlo (n : Nat) (s : RS) : okS n s = Xv n s := by rw [okS, hid_eq]
theorem Za (n : Nat) (s : RS) : V8 n s = J7 n s := by rw [V8, hid_eq]
def Jb : Nat -> RS -> RS := hid Qh
def JA : Nat -> RS -> Int := hid WJ
theorem XT (n : Nat) (s : RS) : Jb n s = Qh n s := by rw [Jb, hid_eq]
theorem Zb (n : Nat) (s : RS) : JA n s = WJ n s := by rw [JA, hid_eq]
def JjI (s : RS) : RS := Qh (WJ 2 s).toNat (Qh 2 s)
def JcW (s : RS) : ByteArray := ⟨(JU (J7 (WJ 2 s).toNat (Qh 2 s))).toArray⟩
def Qc : RS -> RS := hid JjI
def JS : RS -> ByteArray := hid JcW
theorem Jdn (s : RS) : Qc s = JjI s := by rw [Qc, hid_eq]
theorem Jhq (s : RS) : JS s = JcW s := by rw [JS, hid_eq]
theorem Xb {l : List PV} : byB l = true ↔ Jl .u8 l = true /\ ∀ x ∈ JD l, 0 <= x /\ x < 256 := by
 induction l with
 | nil => simp [byB, Jl, JD]
 | cons p ps ih =>
  have e1 : byB (p :: ps) = ((p.isInt .u8 && (decide (0 <= p.int) && decide (p.int < 256))) && byB ps) := rfl
  have e2 : JD (p :: ps) = p.int :: JD ps := rfl
  have e3 : Jl .u8 (p :: ps) = (p.isInt .u8 && Jl .u8 ps) := rfl
  rw [e1, e2, e3]
  simp only [Bool.and_eq_true, decide_eq_true_eq, List.mem_cons, forall_eq_or_imp, ih]
  constructor
  · rintro ⟨⟨h1, h2⟩, h3, h4⟩
    exact ⟨⟨h1, h3⟩, h2, h4⟩
  · rintro ⟨⟨h1, h3⟩, h2, h4⟩
    exact ⟨⟨h1, h2⟩, h3, h4⟩
theorem Jrz {l : List PV} (h : byB l = true) (n : Nat) : byB (l.take n) = true := List.all_eq_true.2 fun p hp => List.all_eq_true.1 h p (List.mem_of_mem_take hp)
theorem JjJ {l : List PV} (h : byB l = true) (n : Nat) : byB (l.drop n) = true := List.all_eq_true.2 fun p hp => List.all_eq_true.1 h p (List.mem_of_mem_drop hp)
theorem Jlp {l : List Int} : byB (pu .u8 l) = true ↔ ∀ x ∈ l, 0 <= x /\ x < 256 := by rw [Xb]; simp
theorem YP {s : RS} (h : byB s.b = true) (n : Nat) : byB (Qh n s).b = true := by
 unfold Qh; cases Xv n s
 · exact h
 · exact JjJ h n
theorem Zc {s : RS} (h : byB s.b = true) (n : Nat) : byB (J7 n s) = true := by
 unfold J7; cases Xv n s
 · rfl
 · exact Jrz h n
theorem WU (n : Nat) (s : RS) : (J7 n s).length <= n := by
 unfold J7; cases Xv n s
 · exact Nat.zero_le _
 · simp; omega
theorem Yg : ∀ (l : List Int), (∀ x ∈ l, 0 <= x /\ x < 256) -> 0 <= WT l /\ WT l < 256 ^ l.length
 | [], h => by simp [WT]
 | x :: r, h => by
  have h1 := h x List.mem_cons_self
  have h2 := Yg r fun y hy => h y (List.mem_cons_of_mem _ hy)
  simp only [WT, List.length_cons, Int.pow_succ]
  generalize (256 : Int) ^ r.length = B at *
  omega
theorem XU {s : RS} (h : byB s.b = true) {n : Nat} (hn : n <= 2) : 0 <= WJ n s /\ WJ n s < 65536 := by
 have h1 := Yg (JD (J7 n s)) (Xb.1 (Zc h n)).2
 have h2 : (JD (J7 n s)).length <= 2 := by rw [QR]; exact Nat.le_trans (WU n s) hn
 have h3 : (256 : Int) ^ (JD (J7 n s)).length <= 65536 := by
  generalize (JD (J7 n s)).length = m at *
  match m, h2 with
  | 0, _ => decide
  | 1, _ => decide
  | 2, _ => decide
 unfold WJ
 rw [wrap_i64 (by omega) (by omega)]; omega
structure RT where
 B : List PV
 P : Int
 e : Int
def RT.view (t : RT) : RS := ⟨t.B.drop t.P.toNat, t.e⟩
def okT (t : RT) : Bool := decide (0 <= t.P) && (decide (t.P <= (t.B.length : Int)) && (byB t.B && Nat.ble t.B.length 1000000000))
def QT (n : Nat) (t : RT) : RT := bif Xv n t.view then ⟨t.B, ((t.P.toNat + n : Nat) : Int), 0⟩ else ⟨t.B, t.P, bif t.e == 0 then 8 else t.e⟩
def Jh : Nat -> RT -> RT := hid QT
def Qj : Nat -> RT -> Int := hid fun n t => WJ n t.view
def JaD (t : RT) : RT := QT (WJ 2 t.view).toNat (QT 2 t)
def QU : RT -> RT := hid JaD
def XV : RT -> ByteArray := hid fun t => JcW t.view
theorem Xl (n : Nat) (t : RT) : Jh n t = QT n t := by rw [Jh, hid_eq]
theorem Jdo (n : Nat) (t : RT) : Qj n t = WJ n t.view := by rw [Qj, hid_eq]
theorem Jhr (t : RT) : QU t = JaD t := by rw [QU, hid_eq]
theorem JjK (t : RT) : XV t = JcW t.view := by rw [XV, hid_eq]
theorem YQ (n : Nat) (t : RT) : (QT n t).view = Qh n t.view := by
 unfold QT Qh
 cases Xv n t.view with
 | true => simp only [cond_true, RT.view, Int.toNat_natCast, List.drop_drop]
 | false => simp only [cond_false, RT.view]
theorem JrA (t : RT) : (JaD t).view = JjI t.view := by simp only [JaD, JjI, YQ]
@[simp] theorem WC (n : Nat) (t : RT) : Qj n t = JA n t.view := by rw [Jdo, Zb]
@[simp] theorem Qk (n : Nat) (t : RT) : (Jh n t).view = Jb n t.view := by rw [Xl, XT, YQ]
@[simp] theorem Jgk (t : RT) : (QU t).view = Qc t.view := by rw [Jhr, Jdn, JrA]
@[simp] theorem Jgl (t : RT) : XV t = JS t.view := by rw [JjK, Jhq]
theorem ZY {t : RT} (h : okT t = true) (n : Nat) : okT (QT n t) = true := by
 have h' := h
 simp only [okT, Bool.and_eq_true, decide_eq_true_eq, Nat.ble_eq] at h ⊢
 unfold QT
 cases hk : Xv n t.view with
 | true =>
  simp only [cond_true]
  have hn : n <= (t.B.drop t.P.toNat).length := by
   simp only [Xv, RT.view, Bool.and_eq_true, Nat.ble_eq] at hk; exact hk.2
  rw [List.length_drop] at hn
  refine ⟨by omega, by omega, h.2.2⟩
 | false => exact h
theorem JvD {t : RT} (h : okT t = true) : okT (JaD t) = true := ZY (ZY h _) _
@[simp] theorem QA {t : RT} (h : okT t = true) (n : Nat) : okT (Jh n t) = true := by rw [Xl]; exact ZY h n
@[simp] theorem JjL {t : RT} (h : okT t = true) : okT (QU t) = true := by rw [Jhr]; exact JvD h
theorem JrB {s : RS} (h : s.e ≠ 0) (n : Nat) : Xv n s = false := by
 unfold Xv
 have : (s.e == 0) = false := by simpa using h
 rw [this]; rfl
theorem JaE {s : RS} (h : s.e ≠ 0) (n : Nat) : Qh n s = s := by
 unfold Qh
 have : (s.e == 0) = false := by simpa using h
 rw [JrB h, cond_false, this, cond_false]
theorem Jqu {t : RT} (h : t.e ≠ 0) (n : Nat) : QT n t = t := by
 unfold QT
 have : (t.e == 0) = false := by simpa using h
 rw [JrB (s := t.view) h, cond_false, this, cond_false]
-- FN (*code.Reader).take
abbrev rdP (z f : Bool) (s : RS) : Ent := .box false 166 (.st 166 [.ro 5 z f s.b, .sc (.int .i64 s.e)])
def Jhs : Jz
 | [.ptr 0 [], .sc (.int .i64 n)], [.box false 166 (.st 166 [.ro 5 z f b, .sc (.int .i64 e)])], k =>
  bif (!z || f) && decide (0 <= n) then k ⟨.ro 5 (!okS n.toNat ⟨b, e⟩ || z) (!okS n.toNat ⟨b, e⟩ || z) (V8 n.toNat ⟨b, e⟩), [rdP z f (Jb n.toNat ⟨b, e⟩)], []⟩ else none
 | _, _, _ => none
def JrC : Sig := { own := [], run := Jhs }
theorem JvE (z f : Bool) (b : List PV) (e n : Int) (hz : (!z || f) = true) (hn : 0 <= n) (k : KR) :
   JvC 0 z f b e n k = k ⟨.ro 5 (!okS n.toNat ⟨b, e⟩ || z) (!okS n.toNat ⟨b, e⟩ || z) (V8 n.toNat ⟨b, e⟩), [rdP z f (Jb n.toNat ⟨b, e⟩)], []⟩ := by
 rw [Jlo, Za, XT]
 have hzf : (z || f) = f := by cases z <;> cases f <;> simp_all
 have hz2 : (z || f && false) = z := by cases z <;> cases f <;> rfl
 unfold JvC Jhp
 by_cases c1 : n > zi b.length
 · have hk : Nat.ble n.toNat b.length = false := by
     cases h : Nat.ble n.toNat b.length with
     | false => rfl
     | true => rw [Nat.ble_eq] at h; simp only [zi] at c1; omega
   rw [Ja (by simpa using c1)]
   by_cases c2 : e = 0
   · subst c2
     simp only [beq_self_eq_true, cond_true]
     simp [Xv, J7, Qh, hk]
   · have hb : (e == 0) = false := by simpa using c2
     have hb2 : (e != 0) = true := by simpa using c2
     simp only [hb, hb2, cond_true, cond_false]
     simp [Xv, J7, Qh, hb]
 · rw [Jd (by simpa using c1)]
   by_cases c2 : e = 0
   · subst c2
     have hk : Nat.ble n.toNat b.length = true := by rw [Nat.ble_eq]; simp only [zi] at c1; omega
     have hk' : n.toNat <= b.length := by rw [Nat.ble_eq] at hk; exact hk
     have h00 : ((0 : Int) != 0) = false := by decide
     simp only [h00, cond_false]
     rw [Ja (by simp; omega), Ja (by simp; omega)]
     simp [Xv, J7, Qh, hk, hzf, hz2]
   · have hb : (e == 0) = false := by simpa using c2
     have hb2 : (e != 0) = true := by simpa using c2
     simp only [hb2, cond_true]
     simp [Xv, J7, Qh, hb]
theorem JrD : Jc tau Try.prog 119 JrC := JFt.of fun xs es k res hr => by
 change Jhs xs es k = some res at hr
 unfold Jhs at hr
 split at hr
 · obtain ⟨hc, hr⟩ := Jv hr
   simp only [Bool.and_eq_true, decide_eq_true_eq] at hc
   exact (JvE _ _ _ _ _ hc.1 hc.2 _).trans hr
 · cases hr
def JrE : Nat := 27
def JAH : Fns := Jt 119 JrC (F0)
theorem Jor : Jq tau Try.prog JAH := (Js).add JrD Jyq
def Jht : Code := Qd (Try.f118.body.get!) [1, 1, 0, 1, 0, 0]
def JaF : Nm := [(5, .any), (10, .any), (11, .any), (12, .any)]
def Jhu : Nm := [(5, .any)]
def Jlq : An := (.seq .leaf (.seq (.cond .leaf .leaf) (.seq (.block none (.seq .leaf .leaf)) .leaf)))
def Jos (r0 : Qr) : An := (.seq .leaf (.seq .leaf (.seq (.seq .leaf (.block none (.sum JaF JrE r0))) (.seq .leaf .leaf))))
def ZZ (f : Nat) (rc : Int -> Bool -> Bool -> List PV -> Int -> Int -> Bool -> Bool -> List PV -> Int -> OR) (k0 : Int -> Bool -> Bool -> List PV -> Int -> OR) (v0 : Int) (v1 v2 : Bool) (v3 : List PV) (v4 v5 : Int) (v6 v7 : Bool) (v8 : List PV) (v9 : Int) : OR := bif decide (v5 < v4) then bif decide (0 <= v5) && decide (v5 < zi v3.length) && PV.isInt IntKind.u8 (v3.getD v5.toNat PV.top) && true then bif decide (0 <= IntKind.i64.wrap (8 * v5)) && true then rc (JM BinOp.or IntKind.u64 v0 (Xs IntKind.u64 (IntKind.u64.wrap (v3.getD v5.toNat PV.top).int) (IntKind.i64.wrap (8 * v5)))) v1 v2 v3 v4 (IntKind.i64.wrap (v5 + 1)) v6 v7 v8 v9 else none else none else k0 v0 v6 v7 v8 v9
def Zd (f : Nat) (k0 : Int -> Bool -> Bool -> List PV -> Int -> OR) : Nat -> Int -> Bool -> Bool -> List PV -> Int -> Int -> Bool -> Bool -> List PV -> Int -> OR
 | 0, _, _, _, _, _, _, _, _, _, _ => none
 | n + 1, v0, v1, v2, v3, v4, v5, v6, v7, v8, v9 => ZZ f (Zd f k0 n) k0 v0 v1 v2 v3 v4 v5 v6 v7 v8 v9
def VI (k : Kont) := fun x0 x1 x2 x3 x4 => k (Ex.exit 0) (Ji Jhu JrE [.sc (.int .u64 x0)] [(0, .box false 166 (PV.st 166 [.ro 5 x1 x2 x3, .sc (.int .i64 x4)]))])
def Jhv (f : Nat) (k : Kont) (n : Nat) (v0 : Int) (v1 v2 : Bool) (v3 : List PV) (v4 v5 : Int) (v6 v7 : Bool) (v8 : List PV) (v9 : Int) : OR := Jy tau 1 JaF (fun s k => ev tau JAH 1 0 Jht (Jlq ) s k) n (Ji JaF JrE [.sc (.int .u64 v0), .ro 5 v1 v2 v3, .sc (.int .i64 v4), .sc (.int .i64 v5)] [(0, .box false 166 (PV.st 166 [.ro 5 v6 v7 v8, .sc (.int .i64 v9)]))]) (JG tau 1 Jhu k)
theorem JrF (f : Nat) (k : Kont) (n : Nat) (v0 : Int) (v1 v2 : Bool) (v3 : List PV) (v4 v5 : Int) (v6 v7 : Bool) (v8 : List PV) (v9 : Int) : Jhv f k (n + 1) v0 v1 v2 v3 v4 v5 v6 v7 v8 v9 = ZZ f (Jhv f k n) (VI k) v0 v1 v2 v3 v4 v5 v6 v7 v8 v9 := by kernel_rfl
theorem JjM (f : Nat) (k : Kont) : ∀ (n : Nat) (v0 : Int) (v1 v2 : Bool) (v3 : List PV) (v4 v5 : Int) (v6 v7 : Bool) (v8 : List PV) (v9 : Int), Jhv f k n v0 v1 v2 v3 v4 v5 v6 v7 v8 v9 = Zd f (VI k) n v0 v1 v2 v3 v4 v5 v6 v7 v8 v9 | 0, _, _, _, _, _, _, _, _, _, _ => rfl | n + 1, v0, v1, v2, v3, v4, v5, v6, v7, v8, v9 => (JrF f k n v0 v1 v2 v3 v4 v5 v6 v7 v8 v9).trans (congrArg (fun r => ZZ f r (VI k) v0 v1 v2 v3 v4 v5 v6 v7 v8 v9) (by funext v0 v1 v2 v3 v4 v5 v6 v7 v8 v9; exact JjM f k n v0 v1 v2 v3 v4 v5 v6 v7 v8 v9))
def Gu (f : Nat) : List PV -> List (Nat × Ent) -> Kont -> OR
 | [.sc (.int .u64 v0), .ro 5 v1 v2 v3, .sc (.int .i64 v4),
 PV.sc
  (Value.int IntKind.i64
   v5)], [(0,
  Ent.box false 166
   (PV.st 166
    [.ro 5 v6 v7 v8,
     PV.sc
      (Value.int IntKind.i64
       v9)]))], k => Zd f (VI k) f v0 v1 v2 v3 v4 v5 v6 v7 v8 v9
 | _, _, _ => none
theorem JvF (f : Nat) : Jf Jht Jlq = [] := by kernel_rfl
theorem JvG (f : Nat) : (Item.l Jht JaF JrE (Gu f)).Ok tau Try.prog 1 := Ju Jn Jor Jo (x := Jlq) (nm2 := Jhu) (Jk _ _ (by rw [JvF f]; intro q hq; cases hq)) fun vs hp k res hr => by
 unfold Gu at hr
 split at hr
 · exact ⟨f, 0, (JjM f _ f _ _ _ _ _ _ _ _ _ _ ).trans hr⟩
 · cases hr
def JAI (f : Nat) (y0 y1 : Bool) (r_b : List PV) (r_e n : Int) (k : KR) : OR := bif (!y0 || y1) && decide (0 <= n) then Zd f (fun x0_0 x1_0 x2_0 x3_0 x4_0 => k (Res.mk (.sc (.int .i64 (IntKind.i64.wrap x0_0))) [.box false 166 (PV.st 166 [.ro 5 x1_0 x2_0 x3_0, .sc (.int .i64 x4_0)])] [])) f (0) (!okS n.toNat (RS.mk r_b r_e) || y0) (!okS n.toNat (RS.mk r_b r_e) || y0) (V8 n.toNat (RS.mk r_b r_e)) (zi (V8 n.toNat (RS.mk r_b r_e)).length) (0) y0 y1 ((Jb n.toNat (RS.mk r_b r_e)).b) ((Jb n.toNat (RS.mk r_b r_e)).e) else none
theorem JLZ (f : Nat) (y0 y1 : Bool) (r_b : List PV) (r_e n : Int) (k : KR) : JJ tau JAH Try.f118 (Try.f118.body.get!) (Jos (Gu f)) [.ro] 0 [.ptr 0 [], .sc (.int .i64 n)] [.box false 166 (.st 166 [.ro 5 y0 y1 r_b, .sc (.int .i64 r_e)])] k = JAI f y0 y1 r_b r_e n k := by kernel_rfl
theorem JFu (f : Nat) : Jf (Try.f118.body.get!) (Jos (Gu f)) = [.l Jht JaF JrE (Gu f)] := by kernel_rfl
theorem JFv (f : Nat) : ∀ q ∈ Jf (Try.f118.body.get!) (Jos (Gu f)), q.Ok tau Try.prog 1 := by rw [JFu f]; exact JL (JvG f) (fun _ h => nomatch h)
theorem Jyr : Try.prog.funcs[118]? = some Try.f118 := by kernel_rfl
theorem Jys : Try.f118.body = some (Try.f118.body.get!) := by kernel_rfl
theorem JrG : Enters Try.prog 118 := enters_of Jyr (by kernel_rfl) Jys
-- FN (*code.Reader).number
theorem Jgm : ∀ (l : List Int) (x : Int), WT (l ++ [x]) = WT l + x * 256 ^ l.length
 | [], x => by simp [WT]
 | y :: r, x => by
  simp only [List.cons_append, WT, Jgm r x, List.length_cons, Int.pow_succ]
  have : x * (256 ^ r.length * 256) = 256 * (x * 256 ^ r.length) := by rw [Int.mul_comm 256, Int.mul_assoc]
  omega
theorem Jlr (i : Nat) : (256 : Int) ^ i = 2 ^ (8 * i) := by rw [Int.pow_mul]; rfl
theorem JjN {v y : Int} {j : Nat} (hj : j <= 64) (hv0 : 0 <= v) (hv : v < 2 ^ j) (hy0 : 0 <= y) (hy : y * 2 ^ j < 2 ^ 64) : JM .or .u64 v (y * 2 ^ j) = v + y * 2 ^ j := by
 obtain ⟨a, rfl⟩ := Int.eq_ofNat_of_zero_le hv0
 obtain ⟨b, rfl⟩ := Int.eq_ofNat_of_zero_le hy0
 have e1 : ((b : Int)) * 2 ^ j = ((b * 2 ^ j : Nat) : Int) := by rw [Int.natCast_mul, Int.natCast_pow]; rfl
 have e2 : ((2 : Int)) ^ j = ((2 ^ j : Nat) : Int) := by rw [Int.natCast_pow]; rfl
 have e3 : ((2 : Int)) ^ 64 = ((2 ^ 64 : Nat) : Int) := by rw [Int.natCast_pow]; rfl
 rw [e2] at hv
 rw [e1, e3] at hy
 have ha : a < 2 ^ j := Int.ofNat_lt.1 hv
 have hb : b * 2 ^ j < 2 ^ 64 := Int.ofNat_lt.1 hy
 rw [e1]
 have hor : a ||| b * 2 ^ j = a + b * 2 ^ j := by
  have h := Nat.shiftLeft_add_eq_or_of_lt ha b
  rw [Nat.shiftLeft_eq] at h
  rw [Nat.or_comm, ← h, Nat.add_comm]
 have ha2 : a < 2 ^ 64 := Nat.lt_of_lt_of_le ha (Nat.pow_le_pow_right (by omega) hj)
 have hsum : a + b * 2 ^ j < 2 ^ 64 := by rw [← hor]; exact Nat.or_lt_two_pow ha2 hb
 generalize hc : b * 2 ^ j = c at *
 have ht : (BitVec.ofInt 64 (a : Int) ||| BitVec.ofInt 64 (c : Int)).toNat = a + c := by
  rw [BitVec.toNat_or, BitVec.ofInt_natCast, BitVec.ofInt_natCast, BitVec.toNat_ofNat, BitVec.toNat_ofNat, Nat.mod_eq_of_lt ha2, Nat.mod_eq_of_lt hb, hor]
 show IntKind.u64.wrap ((BitVec.ofInt 64 (a : Int) ||| BitVec.ofInt 64 (c : Int)).toNat : Int) = _
 rw [ht, QS]
 have h64 : (2 : Nat) ^ 64 = 18446744073709551616 := by decide
 rw [h64] at hsum
 omega
theorem JrH {x : Int} (h0 : 0 <= x) (h1 : x < 256) {i : Nat} (hi : i < 8) : Xs .u64 (IntKind.u64.wrap x) (8 * (i : Int)) = x * 2 ^ (8 * i) := by
 rw [QS, Int.emod_eq_of_lt h0 (by omega), Xs, QS]
 have : min (8 * (i : Int)).toNat IntKind.u64.bits = 8 * i := by
  have : IntKind.u64.bits = 64 := rfl
  rw [this]; omega
 rw [this]
 have hp : (2 : Int) ^ (8 * i) <= 2 ^ 56 := by
  have h : (2 ^ (8 * i) : Nat) <= 2 ^ 56 := Nat.pow_le_pow_right (by omega) (by omega)
  have e2 : ((2 : Int)) ^ (8 * i) = ((2 ^ (8 * i) : Nat) : Int) := by rw [Int.natCast_pow]; rfl
  have e3 : ((2 : Int)) ^ 56 = ((2 ^ 56 : Nat) : Int) := by rw [Int.natCast_pow]; rfl
  rw [e2, e3]; exact Int.ofNat_le.2 h
 have hp0 : (0 : Int) <= 2 ^ (8 * i) := Int.le_of_lt (by
   have e2 : ((2 : Int)) ^ (8 * i) = ((2 ^ (8 * i) : Nat) : Int) := by rw [Int.natCast_pow]; rfl
   rw [e2]; exact Int.ofNat_lt.2 (Nat.two_pow_pos _))
 have h56 : (2 : Int) ^ 56 = 72057594037927936 := by decide
 rw [h56] at hp
 have hm : x * 2 ^ (8 * i) <= 255 * 2 ^ (8 * i) := Int.mul_le_mul_of_nonneg_right (by omega) hp0
 have hm0 : 0 <= x * 2 ^ (8 * i) := Int.mul_nonneg h0 hp0
 exact Int.emod_eq_of_lt hm0 (by omega)
theorem JrI (L : List Int) (hL : ∀ x ∈ L, 0 <= x /\ x < 256) (h8 : L.length <= 8) (f : Nat) (k0 : Int -> Bool -> Bool -> List PV -> Int -> OR) (a b c d : Bool) (R : List PV) (e : Int) : ∀ (dd i n : Nat), i + dd = L.length -> dd < n ->
  Zd f k0 n (WT (L.take i)) a b (pu .u8 L) (L.length : Int) (i : Int) c d R e = k0 (WT L) c d R e
 | 0, i, n + 1, h, hn => by
   obtain rfl : i = L.length := by omega
   simp only [Zd, ZZ, List.take_length]
   exact Jd (by simp)
 | dd + 1, i, n + 1, h, hn => by
   have g1 : ((i : Int)).toNat = i := by omega
   have h1 : IntKind.i64.wrap ((i : Int) + 1) = ((i + 1 : Nat) : Int) := by rw [wrap_i64 (by omega) (by omega)]; omega
   have h2 : IntKind.i64.wrap (8 * (i : Int)) = 8 * (i : Int) := wrap_i64 (by omega) (by omega)
   have hi : i < L.length := by omega
   have hx := hL (L.getD i 0) (by rw [List.getD_eq_getElem?_getD, List.getElem?_eq_getElem hi]; exact List.getElem_mem hi)
   simp only [Zd, ZZ, g1, h1, h2]
   rw [J6 hi, QD hi]
   refine (Ja (by simp; omega)).trans ((Ja (by simp [zi]; omega)).trans ((Ja (by simp; omega)).trans ?_))
   have ht : L.take (i + 1) = L.take i ++ [L.getD i 0] := by
    rw [List.take_add_one, List.getD_eq_getElem?_getD, List.getElem?_eq_getElem hi]; rfl
   have hb := Yg (L.take i) fun x hx => hL x (List.mem_of_mem_take hx)
   have hlen : (L.take i).length = i := by rw [List.length_take]; omega
   rw [hlen, Jlr] at hb
   have hs := JrH hx.1 hx.2 (i := i) (by omega)
   have hlt : L.getD i 0 * 2 ^ (8 * i) < 2 ^ 64 := by
    have hp : (2 : Int) ^ (8 * i) <= 2 ^ 56 := by
     have h : (2 ^ (8 * i) : Nat) <= 2 ^ 56 := Nat.pow_le_pow_right (by omega) (by omega)
     have e2 : ((2 : Int)) ^ (8 * i) = ((2 ^ (8 * i) : Nat) : Int) := by rw [Int.natCast_pow]; rfl
     have e3 : ((2 : Int)) ^ 56 = ((2 ^ 56 : Nat) : Int) := by rw [Int.natCast_pow]; rfl
     rw [e2, e3]; exact Int.ofNat_le.2 h
    have hp0 : (0 : Int) <= 2 ^ (8 * i) := by omega
    have h56 : (2 : Int) ^ 56 = 72057594037927936 := by decide
    have h64 : (2 : Int) ^ 64 = 18446744073709551616 := by decide
    rw [h56] at hp; rw [h64]
    have hm : L.getD i 0 * 2 ^ (8 * i) <= 255 * 2 ^ (8 * i) := Int.mul_le_mul_of_nonneg_right (by omega) hp0
    omega
   rw [hs, JjN (by omega) hb.1 hb.2 hx.1 hlt]
   have hn1 : WT (L.take i) + L.getD i 0 * 2 ^ (8 * i) = WT (L.take (i + 1)) := by
    rw [ht, Jgm, hlen, Jlr]
   rw [hn1]
   exact JrI L hL h8 f k0 a b c d R e dd (i + 1) n (by omega) (by omega)
def Jhw : Jz
 | [.ptr 0 [], .sc (.int .i64 n)], [.box false 166 (.st 166 [.ro 5 z f b, .sc (.int .i64 e)])], k =>
  bif (!z || f) && (decide (0 <= n) && decide (n <= 8)) && byB b then k ⟨.sc (.int .i64 (JA n.toNat ⟨b, e⟩)), [rdP z f (Jb n.toNat ⟨b, e⟩)], []⟩ else none
 | _, _, _ => none
def Jot : Sig := { own := [], run := Jhw }
theorem JvH (z f : Bool) (b : List PV) (e n : Int) (hz : (!z || f) = true) (hn : 0 <= n) (hn8 : n <= 8) (hb : byB b = true) (k : KR) :
  JAI 20 z f b e n k = k ⟨.sc (.int .i64 (JA n.toNat ⟨b, e⟩)), [rdP z f (Jb n.toNat ⟨b, e⟩)], []⟩ := by
 unfold JAI
 rw [Ja (by rw [hz]; simpa using hn), Zb, Za]
 have ho : byB (J7 n.toNat ⟨b, e⟩) = true := Zc hb _
 have hoi := Xb.1 ho
 have hl : (JD (J7 n.toNat ⟨b, e⟩)).length <= 8 := by rw [QR]; exact Nat.le_trans (WU _ _) (by omega)
 have hL := JrI (JD (J7 n.toNat ⟨b, e⟩)) hoi.2 hl 20 (fun x0_0 x1_0 x2_0 x3_0 x4_0 => k (Res.mk (.sc (.int .i64 (IntKind.i64.wrap x0_0))) [.box false 166 (.st 166 [.ro 5 x1_0 x2_0 x3_0, .sc (.int .i64 x4_0)])] [])) (!okS n.toNat ⟨b, e⟩ || z) (!okS n.toNat ⟨b, e⟩ || z) z f (Jb n.toNat ⟨b, e⟩).b (Jb n.toNat ⟨b, e⟩).e (JD (J7 n.toNat ⟨b, e⟩)).length 0 20 (by omega) (by omega)
 rw [← Qy hoi.1, QR] at hL
 simp only [List.take_zero, WT] at hL
 exact hL
theorem Jls : Jc tau Try.prog 118 Jot := Jc.mk' fun xs es k res hl hr => by
 change Jhw xs es k = some res at hr
 unfold Jhw at hr
 split at hr
 · rename_i n z f b e
   obtain ⟨hc, hr⟩ := Jv hr
   simp only [Bool.and_eq_true, decide_eq_true_eq] at hc
   exact J2 Jn Jor Jo Jyr Jys (Jos (Gu 20)) [.ro] 1 0 (JFv 20) hl rfl ((JLZ 20 z f b e n k).trans ((JvH z f b e n hc.1.1 hc.1.2.1 hc.1.2.2 hc.2 k).trans hr))
 · cases hr
def F81 : Fns := Jt 118 Jot (F0)
theorem JAJ : Jq tau Try.prog F81 := (Js).add Jls JrG
def JAK : An := (.seq .leaf (.seq .leaf .leaf))
def g81 (f : Nat) (y0 y1 : Bool) (r_b : List PV) (r_e : Int) (k : KR) : OR := bif (!y0 || y1) && true && byB r_b then k (Res.mk (.sc (.int .i64 (JA 8 (RS.mk r_b r_e)))) [.box false 166 (PV.st 166 [.ro 5 y0 y1 (Jb 8 (RS.mk r_b r_e)).b, .sc (.int .i64 (Jb 8 (RS.mk r_b r_e)).e)])] []) else none
theorem e81 (f : Nat) (y0 y1 : Bool) (r_b : List PV) (r_e : Int) (k : KR) : JJ tau F81 Try.f81 (Try.f81.body.get!) JAK [.ro] 0 [.ptr 0 []] [.box false 166 (.st 166 [.ro 5 y0 y1 r_b, .sc (.int .i64 r_e)])] k = g81 f y0 y1 r_b r_e k := by kernel_rfl
theorem JL0 (f : Nat) : ∀ q ∈ Jf (Try.f81.body.get!) JAK, q.Ok tau Try.prog 1 := Jw (by kernel_rfl)
theorem JFw : Try.prog.funcs[81]? = some Try.f81 := by kernel_rfl
theorem JFx : Try.f81.body = some (Try.f81.body.get!) := by kernel_rfl
theorem JFy : Enters Try.prog 81 := enters_of JFw (by kernel_rfl) JFx
def JrJ : Jz
 | [.ptr 0 []], [.box false 166 (.st 166 [.ro 5 y0 y1 r_b, .sc (.int .i64 r_e)])], k => g81 0 y0 y1 r_b r_e k
 | _, _, _ => none
def s81 : Sig := { own := [], run := JrJ }
theorem JFz : Jc tau Try.prog 81 s81 := JN Jn JAJ Jo JFw JFx JAK [.ro] 1 [] JrJ (JL0 0) fun xs es k res hr => by
 unfold JrJ at hr
 split at hr
 · exact ⟨rfl, 0, (e81 0 _ _ _ _  _).trans hr⟩
 · cases hr
def F82 : Fns := Jt 118 Jot (F0)
theorem JAL : Jq tau Try.prog F82 := (Js).add Jls JrG
def JAM : An := (.seq .leaf (.seq .leaf .leaf))
def g82 (f : Nat) (y0 y1 : Bool) (r_b : List PV) (r_e : Int) (k : KR) : OR := bif (!y0 || y1) && true && byB r_b then k (Res.mk (.sc (.int .i64 (JA 1 (RS.mk r_b r_e)))) [.box false 166 (PV.st 166 [.ro 5 y0 y1 (Jb 1 (RS.mk r_b r_e)).b, .sc (.int .i64 (Jb 1 (RS.mk r_b r_e)).e)])] []) else none
theorem e82 (f : Nat) (y0 y1 : Bool) (r_b : List PV) (r_e : Int) (k : KR) : JJ tau F82 Try.f82 (Try.f82.body.get!) JAM [.ro] 0 [.ptr 0 []] [.box false 166 (.st 166 [.ro 5 y0 y1 r_b, .sc (.int .i64 r_e)])] k = g82 f y0 y1 r_b r_e k := by kernel_rfl
theorem JL1 (f : Nat) : ∀ q ∈ Jf (Try.f82.body.get!) JAM, q.Ok tau Try.prog 1 := Jw (by kernel_rfl)
theorem JFA : Try.prog.funcs[82]? = some Try.f82 := by kernel_rfl
theorem JFB : Try.f82.body = some (Try.f82.body.get!) := by kernel_rfl
theorem JFC : Enters Try.prog 82 := enters_of JFA (by kernel_rfl) JFB
def JrK : Jz
 | [.ptr 0 []], [.box false 166 (.st 166 [.ro 5 y0 y1 r_b, .sc (.int .i64 r_e)])], k => g82 0 y0 y1 r_b r_e k
 | _, _, _ => none
def s82 : Sig := { own := [], run := JrK }
theorem JFD : Jc tau Try.prog 82 s82 := JN Jn JAL Jo JFA JFB JAM [.ro] 1 [] JrK (JL1 0) fun xs es k res hr => by
 unfold JrK at hr
 split at hr
 · exact ⟨rfl, 0, (e82 0 _ _ _ _  _).trans hr⟩
 · cases hr
def F83 : Fns := Jt 119 JrC (Jt 118 Jot (F0))
theorem JAN : Jq tau Try.prog F83 := ((Js).add Jls JrG).add JrD Jyq
def JAO : An := (.seq .leaf (.seq .leaf (.seq .leaf .leaf)))
def g83 (f : Nat) (y0 y1 : Bool) (r_b : List PV) (r_e : Int) (k : KR) : OR := bif (!y0 || y1) && true && byB r_b then bif (!y0 || y1) && decide (0 <= JA 2 (RS.mk r_b r_e)) then bif Jl IntKind.u8 (V8 (JA 2 (RS.mk r_b r_e)).toNat (Jb 2 (RS.mk r_b r_e))) && true then k (Res.mk (.sc (.string (ByteArray.mk (Array.mk (JU (!okS (JA 2 (RS.mk r_b r_e)).toNat (RS.mk (Jb 2 (RS.mk r_b r_e)).b (Jb 2 (RS.mk r_b r_e)).e) || y0, V8 (JA 2 (RS.mk r_b r_e)).toNat (Jb 2 (RS.mk r_b r_e))).snd))))) [.box false 166 (PV.st 166 [.ro 5 y0 y1 (Jb (JA 2 (RS.mk r_b r_e)).toNat (Jb 2 (RS.mk r_b r_e))).b, .sc (.int .i64 (Jb (JA 2 (RS.mk r_b r_e)).toNat (Jb 2 (RS.mk r_b r_e))).e)])] []) else none else none else none
theorem e83 (f : Nat) (y0 y1 : Bool) (r_b : List PV) (r_e : Int) (k : KR) : JJ tau F83 Try.f83 (Try.f83.body.get!) JAO [.ro] 0 [.ptr 0 []] [.box false 166 (.st 166 [.ro 5 y0 y1 r_b, .sc (.int .i64 r_e)])] k = g83 f y0 y1 r_b r_e k := by kernel_rfl
theorem JL2 (f : Nat) : ∀ q ∈ Jf (Try.f83.body.get!) JAO, q.Ok tau Try.prog 1 := Jw (by kernel_rfl)
theorem JFE : Try.prog.funcs[83]? = some Try.f83 := by kernel_rfl
theorem JFF : Try.f83.body = some (Try.f83.body.get!) := by kernel_rfl
theorem JFG : Enters Try.prog 83 := enters_of JFE (by kernel_rfl) JFF
def JrL : Jz
 | [.ptr 0 []], [.box false 166 (.st 166 [.ro 5 y0 y1 r_b, .sc (.int .i64 r_e)])], k => g83 0 y0 y1 r_b r_e k
 | _, _, _ => none
def s83 : Sig := { own := [], run := JrL }
theorem JL3 : Jc tau Try.prog 83 s83 := JN Jn JAN Jo JFE JFF JAO [.ro] 1 [] JrL (JL2 0) fun xs es k res hr => by
 unfold JrL at hr
 split at hr
 · exact ⟨rfl, 0, (e83 0 _ _ _ _  _).trans hr⟩
 · cases hr
-- FN (*code.Reader).Text
def Jlt : Jz
 | [.ptr 0 []], [.box false 166 (.st 166 [.ro 5 z f b, .sc (.int .i64 e)])], k =>
  bif (!z || f) && byB b then k ⟨.sc (.string (JS ⟨b, e⟩)), [rdP z f (Qc ⟨b, e⟩)], []⟩ else none
 | _, _, _ => none
def JAP : Sig := { own := [], run := Jlt }
theorem Jyt : Jc tau Try.prog 83 JAP := JL3.of fun xs es k res hr => by
 change Jlt xs es k = some res at hr
 unfold Jlt at hr
 split at hr
 · rename_i z f b e
   obtain ⟨hc, hr⟩ := Jv hr
   simp only [Bool.and_eq_true] at hc
   show g83 0 z f b e k = some res
   have hn := (XU (s := ⟨b, e⟩) hc.2 (n := 2) (by omega)).1
   have ho := (Xb.1 (Zc (s := Qh 2 ⟨b, e⟩) (YP (s := ⟨b, e⟩) hc.2 2) (WJ 2 ⟨b, e⟩).toNat)).1
   unfold g83
   simp only [Zb, XT, Za]
   rw [Ja (by rw [hc.1, hc.2]; rfl), Ja (by rw [hc.1]; simpa using hn), Ja (by rw [ho]; rfl)]
   rw [Jhq, Jdn] at hr
   exact hr
 · cases hr


def F76 : Fns := F0
theorem JAQ : Jq tau Try.prog F76 := Js
def JAR : An := (.seq .leaf (.seq (.seq .leaf (.cond (.seq .leaf .leaf) .leaf)) (.seq .leaf .leaf)))
def g76 (f : Nat) (s_z s_f : Bool) (s : List PV) (k : KR) : OR := bif s_z then k (Res.mk (.ro 5 true true []) [] []) else bif Je (0 + s.length) 1 && true then k (Res.mk (.ro 5 false false (List.take (0 + s.length) s)) [] []) else none
theorem e76 (f : Nat) (s_z s_f : Bool) (s : List PV) (k : KR) : JJ tau F76 Try.f76 (Try.f76.body.get!) JAR [.ro] 0 [.ro 5 s_z s_f s] [] k = g76 f s_z s_f s k := by kernel_rfl
theorem JL4 (f : Nat) : ∀ q ∈ Jf (Try.f76.body.get!) JAR, q.Ok tau Try.prog 0 := Jw (by kernel_rfl)
theorem JFH : Try.prog.funcs[76]? = some Try.f76 := by kernel_rfl
theorem JFI : Try.f76.body = some (Try.f76.body.get!) := by kernel_rfl
theorem JL5 : Enters Try.prog 76 := enters_of JFH (by kernel_rfl) JFI
def JrM : Jz
 | [.ro 5 s_z s_f s], [], k => g76 0 s_z s_f s k
 | _, _, _ => none
def s76 : Sig := { own := [], run := JrM }
theorem JL6 : Jc tau Try.prog 76 s76 := JN Jn JAQ Jo JFH JFI JAR [.ro] 0 [] JrM (JL4 0) fun xs es k res hr => by
 unfold JrM at hr
 split at hr
 · exact ⟨rfl, 0, (e76 0 _ _ _  _).trans hr⟩
 · cases hr
-- FN slices.Clone[[]byte,byte]
def slB (z : Bool) (l : List PV) : Bool := (!z || l.isEmpty) && Nat.ble l.length 1000000000
theorem Xw {z : Bool} {l : List PV} : slB z l = true ↔ (z = true -> l = []) /\ l.length <= 1000000000 := by
 simp only [slB, Bool.and_eq_true, Nat.ble_eq, Bool.or_eq_true, Bool.not_eq_true', List.isEmpty_iff]
 cases z <;> simp
def Jlu : Jz
 | [.ro 5 z f l], [], k => bif slB z l then k ⟨.ro 5 z z l, [], []⟩ else none
 | _, _, _ => none
def JFJ : Sig := { own := [], run := Jlu }
theorem JFK : Jc tau Try.prog 76 JFJ := JL6.of fun xs es k res hr => by
 change Jlu xs es k = some res at hr
 unfold Jlu at hr
 split at hr
 · rename_i z f l
   obtain ⟨hc, hr⟩ := Jv hr
   obtain ⟨h1, h2⟩ := Xw.1 hc
   show g76 0 z f l k = some res
   unfold g76
   cases z with
   | true => obtain rfl := h1 rfl; exact hr
   | false =>
    rw [cond_false, Ja (by simp [Je]; omega)]
    simp only [Nat.zero_add, List.nil_append, List.take_length]
    exact hr
 · cases hr


def F94 : Fns := F0
theorem JAS : Jq tau Try.prog F94 := Js
def JAT : An := (.seq .leaf (.seq (.seq .leaf (.cond .leaf .leaf)) (.seq (.seq .leaf (.cond (.seq .leaf .leaf) .leaf)) (.seq .leaf (.seq .leaf .leaf)))))
abbrev Jlv (y0 : Bool) (y1 : Bool) (r_B : List PV) (r_P : Int) (y2 : Int) (n : Int) := (Res.mk (PV.ro 5 y0 (y0 || y1 && false) (List.drop (IntKind.i64.wrap (IntKind.i64.wrap (r_P + n) - n)).toNat (List.take (IntKind.i64.wrap (r_P + n)).toNat r_B))) [.box false 135 (PV.st 135 [PV.ro 5 y0 y1 r_B, PV.sc (.int .i64 (IntKind.i64.wrap (r_P + n))), PV.sc (.int .i64 y2)])] [])
def g94 (f : Nat) (y0 y1 : Bool) (r_B : List PV) (r_P y2 n : Int) (k : KR) : OR := bif y2 == 0 then bif decide (IntKind.i64.wrap (zi r_B.length - r_P) < n) then k (Res.mk (.ro 5 true true []) [.box false 135 (PV.st 135 [.ro 5 y0 y1 r_B, .sc (.int .i64 r_P), .sc (.int .i64 8)])] []) else bif y2 != 0 then k (Res.mk (.ro 5 true true []) [.box false 135 (PV.st 135 [.ro 5 y0 y1 r_B, .sc (.int .i64 r_P), .sc (.int .i64 y2)])] []) else bif decide (0 <= IntKind.i64.wrap (IntKind.i64.wrap (r_P + n) - n)) && decide (0 <= IntKind.i64.wrap (r_P + n)) && decide ((IntKind.i64.wrap (IntKind.i64.wrap (r_P + n) - n)).toNat <= (IntKind.i64.wrap (r_P + n)).toNat) && decide ((IntKind.i64.wrap (r_P + n)).toNat <= r_B.length) && true then k (Jlv y0 y1 r_B r_P y2 n) else none else bif y2 != 0 then k (Res.mk (.ro 5 true true []) [.box false 135 (PV.st 135 [.ro 5 y0 y1 r_B, .sc (.int .i64 r_P), .sc (.int .i64 y2)])] []) else bif decide (0 <= IntKind.i64.wrap (IntKind.i64.wrap (r_P + n) - n)) && decide (0 <= IntKind.i64.wrap (r_P + n)) && decide ((IntKind.i64.wrap (IntKind.i64.wrap (r_P + n) - n)).toNat <= (IntKind.i64.wrap (r_P + n)).toNat) && decide ((IntKind.i64.wrap (r_P + n)).toNat <= r_B.length) && true then k (Jlv y0 y1 r_B r_P y2 n) else none
theorem e94 (f : Nat) (y0 y1 : Bool) (r_B : List PV) (r_P y2 n : Int) (k : KR) : JJ tau F94 Try.f94 (Try.f94.body.get!) JAT [.ro] 0 [.ptr 0 [], .sc (.int .i64 n)] [.box false 135 (.st 135 [.ro 5 y0 y1 r_B, .sc (.int .i64 r_P), .sc (.int .i64 y2)])] k = g94 f y0 y1 r_B r_P y2 n k := by kernel_rfl
theorem JL7 (f : Nat) : ∀ q ∈ Jf (Try.f94.body.get!) JAT, q.Ok tau Try.prog 1 := Jw (by kernel_rfl)
theorem JFL : Try.prog.funcs[94]? = some Try.f94 := by kernel_rfl
theorem JFM : Try.f94.body = some (Try.f94.body.get!) := by kernel_rfl
theorem JAU : Enters Try.prog 94 := enters_of JFL (by kernel_rfl) JFM
def JrN : Jz
 | [.ptr 0 [], .sc (.int .i64 n)], [.box false 135 (.st 135 [.ro 5 y0 y1 r_B, .sc (.int .i64 r_P), .sc (.int .i64 y2)])], k => g94 0 y0 y1 r_B r_P y2 n k
 | _, _, _ => none
def s94 : Sig := { own := [], run := JrN }
theorem JL8 : Jc tau Try.prog 94 s94 := JN Jn JAS Jo JFL JFM JAT [.ro] 1 [] JrN (JL7 0) fun xs es k res hr => by
 unfold JrN at hr
 split at hr
 · exact ⟨rfl, 0, (e94 0 _ _ _ _ _ _  _).trans hr⟩
 · cases hr
-- FN (*ref1.Reader).take
abbrev rfP (z f : Bool) (t : RT) : Ent := .box false 135 (.st 135 [.ro 5 z f t.B, .sc (.int .i64 t.P), .sc (.int .i64 t.e)])
def Jlw : Jz
 | [.ptr 0 [], .sc (.int .i64 n)], [.box false 135 (.st 135 [.ro 5 z f B, .sc (.int .i64 P), .sc (.int .i64 e)])], k =>
  bif okT ⟨B, P, e⟩ && (decide (0 <= n) && decide (n <= 1000000000)) then k ⟨.ro 5 (!okS n.toNat (RT.view ⟨B, P, e⟩) || z) (!okS n.toNat (RT.view ⟨B, P, e⟩) || z) (V8 n.toNat (RT.view ⟨B, P, e⟩)), [rfP z f (Jh n.toNat ⟨B, P, e⟩)], []⟩ else none
 | _, _, _ => none
def JvI : Sig := { own := [], run := Jlw }
theorem JAV (z f : Bool) (B : List PV) (P e n : Int) (hk : okT ⟨B, P, e⟩ = true) (hn : 0 <= n) (hn2 : n <= 1000000000) (k : KR) :
   g94 0 z f B P e n k = k ⟨.ro 5 (!okS n.toNat (RT.view ⟨B, P, e⟩) || z) (!okS n.toNat (RT.view ⟨B, P, e⟩) || z) (V8 n.toNat (RT.view ⟨B, P, e⟩)), [rfP z f (Jh n.toNat ⟨B, P, e⟩)], []⟩ := by
 rw [Jlo, Za, Xl]
 simp only [okT, Bool.and_eq_true, decide_eq_true_eq, Nat.ble_eq] at hk
 obtain ⟨k1, k2, k3, k4⟩ := hk
 have hz2 : (z || f && false) = z := by cases z <;> cases f <;> rfl
 obtain ⟨p, rfl⟩ := Int.eq_ofNat_of_zero_le k1
 obtain ⟨m, rfl⟩ := Int.eq_ofNat_of_zero_le hn
 have w1 : IntKind.i64.wrap (zi B.length - (p : Int)) = ((B.length - p : Nat) : Int) := by simp only [zi]; rw [wrap_i64 (by omega) (by omega)]; omega
 have w2 : IntKind.i64.wrap ((p : Int) + (m : Int)) = ((p + m : Nat) : Int) := by rw [wrap_i64 (by omega) (by omega)]; omega
 have w3 : IntKind.i64.wrap (((p + m : Nat) : Int) - (m : Int)) = (p : Int) := by rw [wrap_i64 (by omega) (by omega)]; omega
 have hdl : (B.drop p).length = B.length - p := List.length_drop
 unfold g94 Jlv
 simp only [w1, w2, w3, Int.toNat_natCast, hz2]
 by_cases c2 : e = 0
 · subst c2
   simp only [beq_self_eq_true, cond_true]
   have h00 : ((0 : Int) != 0) = false := by decide
   by_cases c1 : ((B.length - p : Nat) : Int) < (m : Int)
   · rw [Ja (by simpa using c1)]
     have hb : Nat.ble m (B.length - p) = false := by
      cases h : Nat.ble m (B.length - p) with
      | false => rfl
      | true => rw [Nat.ble_eq] at h; omega
     simp [Xv, J7, QT, RT.view, hb]
   · have hb : Nat.ble m (B.length - p) = true := by rw [Nat.ble_eq]; omega
     simp only [h00, cond_false]
     rw [Jd (by simpa using c1), Ja (by simp; omega)]
     have hd : List.drop p (List.take (p + m) B) = List.take m (List.drop p B) := by rw [List.drop_take]; congr 1; omega
     rw [hd]
     simp [Xv, J7, QT, RT.view, hb]
 · have hb : (e == 0) = false := by simpa using c2
   have hb2 : (e != 0) = true := by simpa using c2
   simp only [hb, hb2, cond_true, cond_false]
   simp [Xv, J7, QT, RT.view, hb]
theorem JrO : Jc tau Try.prog 94 JvI := JL8.of fun xs es k res hr => by
 change Jlw xs es k = some res at hr
 unfold Jlw at hr
 split at hr
 · obtain ⟨hc, hr⟩ := Jv hr
   simp only [Bool.and_eq_true, decide_eq_true_eq] at hc
   exact (JAV _ _ _ _ _ _ hc.1 hc.2.1 hc.2.2 _).trans hr
 · cases hr
def N44 : Nat := 25
def F44 : Fns := Jt 94 JvI (F0)
theorem JrP : Jq tau Try.prog F44 := (Js).add JrO JAU
def Jou : Code := Qd (Try.f44.body.get!) [1, 1, 1, 0, 1, 0, 0]
def Jek : Nm := [(3, .any), (4, .any), (5, .any)]
def Jlx : Nm := [(3, .any)]
def JrQ : An := (.seq (.seq .leaf (.cond .leaf .leaf)) (.seq (.block none .leaf) .leaf))
def JvJ (r0 : Qr) : An := (.seq .leaf (.seq .leaf (.seq .leaf (.seq (.seq .leaf (.block none (.sum Jek N44 r0))) (.seq .leaf .leaf)))))
def JaG (f : Nat) (rc : Int -> Bool -> Bool -> List PV -> Int -> Bool -> Bool -> List PV -> Int -> Int -> OR) (k0 : Int -> Bool -> Bool -> List PV -> Int -> Int -> OR) (v0 : Int) (v1 v2 : Bool) (v3 : List PV) (v4 : Int) (v5 v6 : Bool) (v7 : List PV) (v8 v9 : Int) : OR := bif decide (v4 >= 0) then bif decide (0 <= v4) && decide (v4 < zi v3.length) && PV.isInt IntKind.u8 (v3.getD v4.toNat PV.top) && true then rc (JM BinOp.or IntKind.u64 (Xs IntKind.u64 v0 8) (IntKind.u64.wrap (v3.getD v4.toNat PV.top).int)) v1 v2 v3 (IntKind.i64.wrap (v4 - 1)) v5 v6 v7 v8 v9 else none else k0 v0 v5 v6 v7 v8 v9
def Gv (f : Nat) (k0 : Int -> Bool -> Bool -> List PV -> Int -> Int -> OR) : Nat -> Int -> Bool -> Bool -> List PV -> Int -> Bool -> Bool -> List PV -> Int -> Int -> OR
 | 0, _, _, _, _, _, _, _, _, _, _ => none
 | n + 1, v0, v1, v2, v3, v4, v5, v6, v7, v8, v9 => JaG f (Gv f k0 n) k0 v0 v1 v2 v3 v4 v5 v6 v7 v8 v9
def JaH (k : Kont) := fun x0 x1 x2 x3 x4 x5 => k (Ex.exit 0) (Ji Jlx N44 [.sc (.int .u64 x0)] [(0, .box false 135 (PV.st 135 [.ro 5 x1 x2 x3, .sc (.int .i64 x4), .sc (.int .i64 x5)]))])
def Jly (f : Nat) (k : Kont) (n : Nat) (v0 : Int) (v1 v2 : Bool) (v3 : List PV) (v4 : Int) (v5 v6 : Bool) (v7 : List PV) (v8 v9 : Int) : OR := Jy tau 1 Jek (fun s k => ev tau F44 1 0 Jou (JrQ ) s k) n (Ji Jek N44 [.sc (.int .u64 v0), .ro 5 v1 v2 v3, .sc (.int .i64 v4)] [(0, .box false 135 (PV.st 135 [.ro 5 v5 v6 v7, .sc (.int .i64 v8), .sc (.int .i64 v9)]))]) (JG tau 1 Jlx k)
theorem JvK (f : Nat) (k : Kont) (n : Nat) (v0 : Int) (v1 v2 : Bool) (v3 : List PV) (v4 : Int) (v5 v6 : Bool) (v7 : List PV) (v8 v9 : Int) : Jly f k (n + 1) v0 v1 v2 v3 v4 v5 v6 v7 v8 v9 = JaG f (Jly f k n) (JaH k) v0 v1 v2 v3 v4 v5 v6 v7 v8 v9 := by kernel_rfl
theorem Jov (f : Nat) (k : Kont) : ∀ (n : Nat) (v0 : Int) (v1 v2 : Bool) (v3 : List PV) (v4 : Int) (v5 v6 : Bool) (v7 : List PV) (v8 v9 : Int), Jly f k n v0 v1 v2 v3 v4 v5 v6 v7 v8 v9 = Gv f (JaH k) n v0 v1 v2 v3 v4 v5 v6 v7 v8 v9 | 0, _, _, _, _, _, _, _, _, _, _ => rfl | n + 1, v0, v1, v2, v3, v4, v5, v6, v7, v8, v9 => (JvK f k n v0 v1 v2 v3 v4 v5 v6 v7 v8 v9).trans (congrArg (fun r => JaG f r (JaH k) v0 v1 v2 v3 v4 v5 v6 v7 v8 v9) (by funext v0 v1 v2 v3 v4 v5 v6 v7 v8 v9; exact Jov f k n v0 v1 v2 v3 v4 v5 v6 v7 v8 v9))
def Jel (f : Nat) : List PV -> List (Nat × Ent) -> Kont -> OR
 | [.sc (.int .u64 v0), .ro 5 v1 v2 v3,
 PV.sc
  (Value.int IntKind.i64
   v4)], [(0,
  Ent.box false 135
   (PV.st 135
    [.ro 5 v5 v6 v7, .sc (.int .i64 v8),
     PV.sc
      (Value.int IntKind.i64
       v9)]))], k => Gv f (JaH k) f v0 v1 v2 v3 v4 v5 v6 v7 v8 v9
 | _, _, _ => none
theorem JAW (f : Nat) : Jf Jou JrQ = [] := by kernel_rfl
theorem JAX (f : Nat) : (Item.l Jou Jek N44 (Jel f)).Ok tau Try.prog 1 := Ju Jn JrP Jo (x := JrQ) (nm2 := Jlx) (Jk _ _ (by rw [JAW f]; intro q hq; cases hq)) fun vs hp k res hr => by
 unfold Jel at hr
 split at hr
 · exact ⟨f, 0, (Jov f _ f _ _ _ _ _ _ _ _ _ _ ).trans hr⟩
 · cases hr
abbrev Jem (r_B : List PV) (r_P : Int) (y2 : Int) := (RS.mk (List.drop (RT.mk r_B r_P y2).P.toNat (RT.mk r_B r_P y2).B) (RT.mk r_B r_P y2).e)
def g44 (f : Nat) (y0 y1 : Bool) (r_B : List PV) (r_P y2 : Int) (k : KR) : OR := bif okT (RT.mk r_B r_P y2) && true then Gv f (fun x0_0 x1_0 x2_0 x3_0 x4_0 x5_0 => k (Res.mk (.sc (.int .i64 (IntKind.i64.wrap x0_0))) [.box false 135 (PV.st 135 [.ro 5 x1_0 x2_0 x3_0, .sc (.int .i64 x4_0), .sc (.int .i64 x5_0)])] [])) f (0) (!okS 8 (Jem r_B r_P y2) || y0) (!okS 8 (Jem r_B r_P y2) || y0) (V8 8 (Jem r_B r_P y2)) (IntKind.i64.wrap (zi (V8 8 (Jem r_B r_P y2)).length - 1)) y0 y1 ((Jh 8 (RT.mk r_B r_P y2)).B) ((Jh 8 (RT.mk r_B r_P y2)).P) ((Jh 8 (RT.mk r_B r_P y2)).e) else none
theorem e44 (f : Nat) (y0 y1 : Bool) (r_B : List PV) (r_P y2 : Int) (k : KR) : JJ tau F44 Try.f44 (Try.f44.body.get!) (JvJ (Jel f)) [.ro] 0 [.ptr 0 []] [.box false 135 (.st 135 [.ro 5 y0 y1 r_B, .sc (.int .i64 r_P), .sc (.int .i64 y2)])] k = g44 f y0 y1 r_B r_P y2 k := by kernel_rfl
theorem JL9 (f : Nat) : Jf (Try.f44.body.get!) (JvJ (Jel f)) = [.l Jou Jek N44 (Jel f)] := by kernel_rfl
theorem JMa (f : Nat) : ∀ q ∈ Jf (Try.f44.body.get!) (JvJ (Jel f)), q.Ok tau Try.prog 1 := by rw [JL9 f]; exact JL (JAX f) (fun _ h => nomatch h)
theorem JFN : Try.prog.funcs[44]? = some Try.f44 := by kernel_rfl
theorem JFO : Try.f44.body = some (Try.f44.body.get!) := by kernel_rfl
theorem JAY : Enters Try.prog 44 := enters_of JFN (by kernel_rfl) JFO
def F46 : Fns := Jt 94 JvI (F0)
theorem JAZ : Jq tau Try.prog F46 := (Js).add JrO JAU
def JA0 : An := (.seq .leaf (.seq .leaf (.seq (.seq .leaf (.cond (.seq .leaf .leaf) .leaf)) (.seq .leaf .leaf))))
abbrev Jen (r_B : List PV) (r_P : Int) (y2 : Int) := (V8 1 (RS.mk (List.drop (RT.mk r_B r_P y2).P.toNat (RT.mk r_B r_P y2).B) (RT.mk r_B r_P y2).e))
def g46 (f : Nat) (y0 y1 : Bool) (r_B : List PV) (r_P y2 : Int) (k : KR) : OR := bif okT (RT.mk r_B r_P y2) && true then bif zi (Jen r_B r_P y2).length == 0 then k (Res.mk (.sc (.int .i64 0)) [.box false 135 (PV.st 135 [.ro 5 y0 y1 (Jh 1 (RT.mk r_B r_P y2)).B, .sc (.int .i64 (Jh 1 (RT.mk r_B r_P y2)).P), .sc (.int .i64 (Jh 1 (RT.mk r_B r_P y2)).e)])] []) else bif decide (0 < zi (Jen r_B r_P y2).length) && PV.isInt IntKind.u8 ((Jen r_B r_P y2).getD 0 PV.top) && true then k (Res.mk (.sc (.int .i64 (IntKind.i64.wrap ((Jen r_B r_P y2).getD 0 PV.top).int))) [.box false 135 (PV.st 135 [.ro 5 y0 y1 (Jh 1 (RT.mk r_B r_P y2)).B, .sc (.int .i64 (Jh 1 (RT.mk r_B r_P y2)).P), .sc (.int .i64 (Jh 1 (RT.mk r_B r_P y2)).e)])] []) else none else none
theorem e46 (f : Nat) (y0 y1 : Bool) (r_B : List PV) (r_P y2 : Int) (k : KR) : JJ tau F46 Try.f46 (Try.f46.body.get!) JA0 [.ro] 0 [.ptr 0 []] [.box false 135 (.st 135 [.ro 5 y0 y1 r_B, .sc (.int .i64 r_P), .sc (.int .i64 y2)])] k = g46 f y0 y1 r_B r_P y2 k := by kernel_rfl
theorem JMb (f : Nat) : ∀ q ∈ Jf (Try.f46.body.get!) JA0, q.Ok tau Try.prog 1 := Jw (by kernel_rfl)
theorem JFP : Try.prog.funcs[46]? = some Try.f46 := by kernel_rfl
theorem JFQ : Try.f46.body = some (Try.f46.body.get!) := by kernel_rfl
theorem JA1 : Enters Try.prog 46 := enters_of JFP (by kernel_rfl) JFQ
def JrR : Jz
 | [.ptr 0 []], [.box false 135 (.st 135 [.ro 5 y0 y1 r_B, .sc (.int .i64 r_P), .sc (.int .i64 y2)])], k => g46 0 y0 y1 r_B r_P y2 k
 | _, _, _ => none
def s46 : Sig := { own := [], run := JrR }
theorem JMc : Jc tau Try.prog 46 s46 := JN Jn JAZ Jo JFP JFQ JA0 [.ro] 1 [] JrR (JMb 0) fun xs es k res hr => by
 unfold JrR at hr
 split at hr
 · exact ⟨rfl, 0, (e46 0 _ _ _ _ _  _).trans hr⟩
 · cases hr
def F47 : Fns := Jt 94 JvI (F0)
theorem JA2 : Jq tau Try.prog F47 := (Js).add JrO JAU
def JA3 : An := (.seq .leaf (.seq .leaf (.seq (.seq .leaf (.cond (.seq .leaf .leaf) .leaf)) (.seq .leaf .leaf))))
abbrev Z0 (r_B : List PV) (r_P : Int) (y2 : Int) := (V8 2 (RS.mk (List.drop (RT.mk r_B r_P y2).P.toNat (RT.mk r_B r_P y2).B) (RT.mk r_B r_P y2).e))
abbrev Gw (r_B : List PV) (r_P : Int) (y2 : Int) := (IntKind.i64.wrap ((Z0 r_B r_P y2).getD 0 PV.top).int + IntKind.i64.wrap (256 * IntKind.i64.wrap ((Z0 r_B r_P y2).getD 1 PV.top).int))
abbrev Z1 (r_B : List PV) (r_P : Int) (y2 : Int) := (RT.mk (Jh 2 (RT.mk r_B r_P y2)).B (Jh 2 (RT.mk r_B r_P y2)).P (Jh 2 (RT.mk r_B r_P y2)).e)
abbrev Jhx (r_B : List PV) (r_P : Int) (y2 : Int) := (Jh (IntKind.i64.wrap (Gw r_B r_P y2)).toNat (Jh 2 (RT.mk r_B r_P y2)))
def g47 (f : Nat) (y0 y1 : Bool) (r_B : List PV) (r_P y2 : Int) (k : KR) : OR := bif okT (RT.mk r_B r_P y2) && true then bif zi (Z0 r_B r_P y2).length == 0 then k (Res.mk (.sc (.string (ByteArray.mk (Array.mk [])))) [.box false 135 (PV.st 135 [.ro 5 y0 y1 (Jh 2 (RT.mk r_B r_P y2)).B, .sc (.int .i64 (Jh 2 (RT.mk r_B r_P y2)).P), .sc (.int .i64 (Jh 2 (RT.mk r_B r_P y2)).e)])] []) else bif decide (0 < zi (Z0 r_B r_P y2).length) && PV.isInt IntKind.u8 ((Z0 r_B r_P y2).getD 0 PV.top) && true then bif decide (1 < zi (Z0 r_B r_P y2).length) && PV.isInt IntKind.u8 ((Z0 r_B r_P y2).getD 1 PV.top) && true then bif okT (Jh 2 (RT.mk r_B r_P y2)) && (decide (0 <= IntKind.i64.wrap (Gw r_B r_P y2)) && decide (IntKind.i64.wrap (Gw r_B r_P y2) <= 1000000000)) then bif Jl IntKind.u8 (V8 (IntKind.i64.wrap (Gw r_B r_P y2)).toNat (RS.mk (List.drop (Z1 r_B r_P y2).P.toNat (Z1 r_B r_P y2).B) (Z1 r_B r_P y2).e)) && true then k (Res.mk (.sc (.string (ByteArray.mk (Array.mk (JU (!okS (IntKind.i64.wrap (Gw r_B r_P y2)).toNat (Z1 r_B r_P y2).view || y0, V8 (IntKind.i64.wrap (Gw r_B r_P y2)).toNat (RS.mk (List.drop (Z1 r_B r_P y2).P.toNat (Z1 r_B r_P y2).B) (Z1 r_B r_P y2).e)).snd))))) [.box false 135 (PV.st 135 [.ro 5 y0 y1 (Jhx r_B r_P y2).B, .sc (.int .i64 (Jhx r_B r_P y2).P), .sc (.int .i64 (Jhx r_B r_P y2).e)])] []) else none else none else none else none else none
theorem e47 (f : Nat) (y0 y1 : Bool) (r_B : List PV) (r_P y2 : Int) (k : KR) : JJ tau F47 Try.f47 (Try.f47.body.get!) JA3 [.ro] 0 [.ptr 0 []] [.box false 135 (.st 135 [.ro 5 y0 y1 r_B, .sc (.int .i64 r_P), .sc (.int .i64 y2)])] k = g47 f y0 y1 r_B r_P y2 k := by kernel_rfl
theorem JMd (f : Nat) : ∀ q ∈ Jf (Try.f47.body.get!) JA3, q.Ok tau Try.prog 1 := Jw (by kernel_rfl)
theorem JFR : Try.prog.funcs[47]? = some Try.f47 := by kernel_rfl
theorem JFS : Try.f47.body = some (Try.f47.body.get!) := by kernel_rfl
theorem JFT : Enters Try.prog 47 := enters_of JFR (by kernel_rfl) JFS
def JrS : Jz
 | [.ptr 0 []], [.box false 135 (.st 135 [.ro 5 y0 y1 r_B, .sc (.int .i64 r_P), .sc (.int .i64 y2)])], k => g47 0 y0 y1 r_B r_P y2 k
 | _, _, _ => none
def s47 : Sig := { own := [], run := JrS }
theorem JMe : Jc tau Try.prog 47 s47 := JN Jn JA2 Jo JFR JFS JA3 [.ro] 1 [] JrS (JMd 0) fun xs es k res hr => by
 unfold JrS at hr
 split at hr
 · exact ⟨rfl, 0, (e47 0 _ _ _ _ _  _).trans hr⟩
 · cases hr
-- FN (*ref1.Reader).Int | (*ref1.Reader).Byte | (*ref1.Reader).Text
theorem JfT (k : IntKind) (x y : Int) : JM .or k x y = JM .or k y x := by simp only [JM]; rw [BitVec.or_comm]
theorem Jyu (L : List Int) (hL : ∀ x ∈ L, 0 <= x /\ x < 256) (h8 : L.length <= 8) (f : Nat) (k0 : Int -> Bool -> Bool -> List PV -> Int -> Int -> OR) (a b c d : Bool) (R : List PV) (P e : Int) : ∀ (i n : Nat), i <= L.length -> i < n ->
  Gv f k0 n (WT (L.drop i)) a b (pu .u8 L) ((i : Int) - 1) c d R P e = k0 (WT L) c d R P e
 | 0, n + 1, h, hn => by
   simp only [Gv, JaG, List.drop_zero]
   exact Jd (by decide)
 | i + 1, n + 1, h, hn => by
   have g0 : ((i + 1 : Nat) : Int) - 1 = (i : Int) := by omega
   have g1 : ((i : Int)).toNat = i := by omega
   have h1 : IntKind.i64.wrap ((i : Int) - 1) = (i : Int) - 1 := wrap_i64 (by omega) (by omega)
   have hi : i < L.length := by omega
   have hx := hL (L.getD i 0) (by rw [List.getD_eq_getElem?_getD, List.getElem?_eq_getElem hi]; exact List.getElem_mem hi)
   rw [g0]
   simp only [Gv, JaG, g1, h1]
   rw [J6 hi, QD hi]
   refine (Ja (by simp)).trans ((Ja (by simp [zi]; omega)).trans ?_)
   have hd : L.drop i = L.getD i 0 :: L.drop (i + 1) := by
    rw [List.drop_eq_getElem_cons hi, List.getD_eq_getElem?_getD, List.getElem?_eq_getElem hi]; rfl
   have hb := Yg (L.drop (i + 1)) fun x hx => hL x (List.mem_of_mem_drop hx)
   have hp : (256 : Int) ^ (L.drop (i + 1)).length <= 2 ^ 56 := by
    rw [Jlr]
    have h : (2 ^ (8 * (L.drop (i + 1)).length) : Nat) <= 2 ^ 56 := Nat.pow_le_pow_right (by omega) (by rw [List.length_drop]; omega)
    have e2 : ((2 : Int)) ^ (8 * (L.drop (i + 1)).length) = ((2 ^ (8 * (L.drop (i + 1)).length) : Nat) : Int) := by rw [Int.natCast_pow]; rfl
    have e3 : ((2 : Int)) ^ 56 = ((2 ^ 56 : Nat) : Int) := by rw [Int.natCast_pow]; rfl
    rw [e2, e3]; exact Int.ofNat_le.2 h
   have h56 : (2 : Int) ^ 56 = 72057594037927936 := by decide
   rw [h56] at hp
   have hsh : Xs .u64 (WT (L.drop (i + 1))) 8 = WT (L.drop (i + 1)) * 2 ^ 8 := by
    rw [Xs, QS]
    have : min (8 : Int).toNat IntKind.u64.bits = 8 := by decide
    rw [this]
    have h8 : (2 : Int) ^ 8 = 256 := by decide
    rw [h8]; omega
   have hw : IntKind.u64.wrap (L.getD i 0) = L.getD i 0 := by rw [QS]; omega
   have h8 : (2 : Int) ^ 8 = 256 := by decide
   have h64 : (2 : Int) ^ 64 = 18446744073709551616 := by decide
   rw [hsh, hw, JfT, JjN (by omega) hx.1 (by rw [h8]; exact hx.2) hb.1 (by rw [h8, h64]; omega)]
   have hn1 : L.getD i 0 + WT (L.drop (i + 1)) * 2 ^ 8 = WT (L.drop i) := by rw [hd, WT, h8]; omega
   rw [hn1]
   exact Jyu L hL (by assumption) f k0 a b c d R P e i n (by omega) (by omega)
def Jlz : Jz
 | [.ptr 0 []], [.box false 135 (.st 135 [.ro 5 z f B, .sc (.int .i64 P), .sc (.int .i64 e)])], k =>
  bif okT ⟨B, P, e⟩ then k ⟨.sc (.int .i64 (Qj 8 ⟨B, P, e⟩)), [rfP z f (Jh 8 ⟨B, P, e⟩)], []⟩ else none
 | _, _, _ => none
def JvL : Sig := { own := [], run := Jlz }
theorem JaI {t : RT} (h : okT t = true) : byB t.view.b = true := by
 simp only [okT, Bool.and_eq_true] at h
 exact JjJ h.2.2.1 _
theorem JvM (B : List PV) (P e : Int) : RS.mk (List.drop (RT.mk B P e).P.toNat (RT.mk B P e).B) (RT.mk B P e).e = RT.view ⟨B, P, e⟩ := rfl
theorem JrT : Jc tau Try.prog 44 JvL := Jc.mk' fun xs es k res hl hr => by
 change Jlz xs es k = some res at hr
 unfold Jlz at hr
 split at hr
 · rename_i z f B P e
   obtain ⟨hc, hr⟩ := Jv hr
   have hg : g44 20 z f B P e k = some res := by
    unfold g44 Jem
    have hb := JaI hc
    have ho := Xb.1 (Zc (s := RT.view ⟨B, P, e⟩) hb 8)
    have hl8 : (JD (J7 8 (RT.view ⟨B, P, e⟩))).length <= 8 := by rw [QR]; exact WU _ _
    have hw : IntKind.i64.wrap (zi (J7 8 (RT.view ⟨B, P, e⟩)).length - 1) = ((J7 8 (RT.view ⟨B, P, e⟩)).length : Int) - 1 := by
     have := WU 8 (RT.view ⟨B, P, e⟩)
     simp only [zi]; rw [wrap_i64 (by omega) (by omega)]
    rw [Ja (by rw [hc]; rfl), JvM, Za, hw]
    have hL := Jyu (JD (J7 8 (RT.view ⟨B, P, e⟩))) ho.2 hl8 20 (fun x0_0 x1_0 x2_0 x3_0 x4_0 x5_0 => k (Res.mk (.sc (.int .i64 (IntKind.i64.wrap x0_0))) [.box false 135 (.st 135 [.ro 5 x1_0 x2_0 x3_0, .sc (.int .i64 x4_0), .sc (.int .i64 x5_0)])] [])) (!okS 8 (RT.view ⟨B, P, e⟩) || z) (!okS 8 (RT.view ⟨B, P, e⟩) || z) z f (Jh 8 ⟨B, P, e⟩).B (Jh 8 ⟨B, P, e⟩).P (Jh 8 ⟨B, P, e⟩).e (JD (J7 8 (RT.view ⟨B, P, e⟩))).length 20 (by omega) (by omega)
    rw [← Qy ho.1, List.drop_length, QR] at hL
    simp only [WT] at hL
    refine hL.trans ?_
    rw [Jdo] at hr
    exact hr
   exact J2 Jn JrP Jo JFN JFO (JvJ (Jel 20)) [.ro] 1 0 (JMa 20) hl rfl ((e44 20 z f B P e k).trans hg)
 · cases hr
def JlA : Jz
 | [.ptr 0 []], [.box false 135 (.st 135 [.ro 5 z f B, .sc (.int .i64 P), .sc (.int .i64 e)])], k =>
  bif okT ⟨B, P, e⟩ then k ⟨.sc (.int .i64 (Qj 1 ⟨B, P, e⟩)), [rfP z f (Jh 1 ⟨B, P, e⟩)], []⟩ else none
 | _, _, _ => none
def JvN : Sig := { own := [], run := JlA }
theorem JrU : Jc tau Try.prog 46 JvN := JMc.of fun xs es k res hr => by
 change JlA xs es k = some res at hr
 unfold JlA at hr
 split at hr
 · rename_i z f B P e
   obtain ⟨hc, hr⟩ := Jv hr
   show g46 0 z f B P e k = some res
   unfold g46 Jen
   have hb := JaI hc
   have hv : RT.view ⟨B, P, e⟩ = ⟨List.drop P.toNat B, e⟩ := rfl
   rw [hv] at hb
   have ho := Xb.1 (Zc hb 1)
   have hl := WU 1 ⟨List.drop P.toNat B, e⟩
   rw [Jdo, WJ, hv] at hr
   simp only [Za]
   rw [Ja (by rw [hc]; rfl)]
   generalize J7 1 ⟨List.drop P.toNat B, e⟩ = O at *
   match O, hl with
   | [], _ => exact hr
   | [p], _ =>
    have h1 : p.isInt .u8 = true := by simpa [Jl] using ho.1
    have h2 := ho.2 p.int (by simp [JD])
    refine (Jd rfl).trans ((Ja (by simp [zi, h1])).trans ?_)
    have : WT (JD [p]) = p.int := by simp [JD, WT]
    rw [this] at hr
    exact hr
 · cases hr
def JlB : Jz
 | [.ptr 0 []], [.box false 135 (.st 135 [.ro 5 z f B, .sc (.int .i64 P), .sc (.int .i64 e)])], k =>
  bif okT ⟨B, P, e⟩ then k ⟨.sc (.string (XV ⟨B, P, e⟩)), [rfP z f (QU ⟨B, P, e⟩)], []⟩ else none
 | _, _, _ => none
def JA4 : Sig := { own := [], run := JlB }
theorem Jyv : Jc tau Try.prog 47 JA4 := JMe.of fun xs es k res hr => by
 change JlB xs es k = some res at hr
 unfold JlB at hr
 split at hr
 · rename_i z f B P e
   obtain ⟨hc, hr⟩ := Jv hr
   show g47 0 z f B P e k = some res
   unfold g47 Jhx Z1 Gw Z0
   have hb := JaI hc
   have hv : RT.view ⟨B, P, e⟩ = ⟨List.drop P.toNat B, e⟩ := rfl
   rw [hv] at hb
   rw [JjK, Jhr] at hr
   have hk2 : okT (Jh 2 ⟨B, P, e⟩) = true := QA hc 2
   have hv2 : ∀ t : RT, RS.mk (List.drop t.P.toNat t.B) t.e = t.view := fun t => rfl
   have hst : (QT 2 ⟨B, P, e⟩).view = Qh 2 ⟨List.drop P.toNat B, e⟩ := YQ 2 ⟨B, P, e⟩
   rw [Ja (by rw [hc]; rfl)]
   simp only [Za, Jlo]
   cases hk : Xv 2 ⟨List.drop P.toNat B, e⟩ with
   | false =>
    have hO : J7 2 ⟨List.drop P.toNat B, e⟩ = [] := by unfold J7; rw [hk]; rfl
    have hN : WJ 2 ⟨List.drop P.toNat B, e⟩ = 0 := by unfold WJ; rw [hO]; rfl
    have he : (Qh 2 ⟨List.drop P.toNat B, e⟩).e ≠ 0 := by
      unfold Qh; rw [hk]
      by_cases h0 : e = 0
      · subst h0; show (8 : Int) ≠ 0; decide
      · have : (e == 0) = false := by simpa using h0
        simp only [cond_false, this]; exact h0
    have hnk : Xv 0 (Qh 2 ⟨List.drop P.toNat B, e⟩) = false := by
      unfold Xv
      have : ((Qh 2 ⟨List.drop P.toNat B, e⟩).e == 0) = false := by simpa using he
      rw [this]; rfl
    have h1 : JcW (RT.view ⟨B, P, e⟩) = ByteArray.mk (Array.mk []) := by
      rw [hv]; unfold JcW; rw [hN]
      have : J7 (0 : Int).toNat (Qh 2 ⟨List.drop P.toNat B, e⟩) = [] := by
        show J7 0 _ = []
        unfold J7; rw [hnk]; rfl
      rw [this]; rfl
    have h2 : JaD ⟨B, P, e⟩ = QT 2 ⟨B, P, e⟩ := by
      unfold JaD; rw [hv, hN]
      rw [← hst] at he
      exact Jqu he _
    rw [h1, h2] at hr
    rw [hO]
    refine (Ja rfl).trans ?_
    rw [Xl]
    exact hr
   | true =>
    have hO : J7 2 ⟨List.drop P.toNat B, e⟩ = List.take 2 (List.drop P.toNat B) := by unfold J7; rw [hk]; rfl
    have hlen : 2 <= (List.drop P.toNat B).length := by
      simp only [Xv, Bool.and_eq_true, Nat.ble_eq] at hk; exact hk.2
    obtain ⟨p, q, hpq⟩ : ∃ p q, J7 2 ⟨List.drop P.toNat B, e⟩ = [p, q] := by
      rw [hO]
      match h : List.drop P.toNat B, hlen with
      | p :: q :: r, _ => exact ⟨p, q, rfl⟩
    have ho := Xb.1 (Zc hb 2)
    rw [hpq] at ho
    have hp1 : p.isInt .u8 = true /\ q.isInt .u8 = true := by simpa [Jl] using ho.1
    have hp2 := ho.2 p.int (by simp [JD])
    have hq2 := ho.2 q.int (by simp [JD])
    have hw : IntKind.i64.wrap (IntKind.i64.wrap p.int + IntKind.i64.wrap (256 * IntKind.i64.wrap q.int)) = p.int + 256 * q.int := by
      rw [wrap_i64 (x := p.int) (by omega) (by omega), wrap_i64 (x := q.int) (by omega) (by omega), wrap_i64 (x := 256 * q.int) (by omega) (by omega), wrap_i64 (by omega) (by omega)]
    have hN : WJ 2 ⟨List.drop P.toNat B, e⟩ = p.int + 256 * q.int := by
      unfold WJ; rw [hpq]
      show IntKind.i64.wrap (WT [p.int, q.int]) = _
      simp only [WT]
      rw [wrap_i64 (by omega) (by omega)]; omega
    have g0 : ([p, q] : List PV).getD 0 PV.top = p := rfl
    have g1 : ([p, q] : List PV).getD 1 PV.top = q := rfl
    simp only [hpq, g0, g1, hw]
    refine (Jd rfl).trans ((Ja (by simp [zi, hp1.1])).trans ((Ja (by simp [zi, hp1.2])).trans ((Ja ?_).trans ?_)))
    · rw [hk2]; simp; omega
    have h1 : JcW (RT.view ⟨B, P, e⟩) = ⟨(JU (J7 (p.int + 256 * q.int).toNat (Jh 2 ⟨B, P, e⟩).view)).toArray⟩ := by
      rw [hv]; unfold JcW; rw [hN, Xl, hst]
    have h2 : JaD ⟨B, P, e⟩ = Jh (p.int + 256 * q.int).toNat (Jh 2 ⟨B, P, e⟩) := by
      unfold JaD; rw [hv, hN, Xl, Xl]
    have hbo : Jl .u8 (J7 (p.int + 256 * q.int).toNat (Jh 2 ⟨B, P, e⟩).view) = true := (Xb.1 (Zc (JaI hk2) _)).1
    rw [h1, h2] at hr
    refine (Ja (by rw [Bool.and_true]; exact hbo)).trans ?_
    exact hr
 · cases hr
def N45 : Nat := 16
def F45 : Fns := Jt 46 JvN (F0)
theorem JrV : Jq tau Try.prog F45 := (Js).add JrU JA1
def Jow : Code := Qd (Try.f45.body.get!) [1, 1, 0, 1, 0, 0]
def Jeo : Nm := [(0, .any), (2, .any), (3, .any), (4, .any)]
def JlC : Nm := [(2, .any), (3, .any)]
def JrW : An := (.seq (.seq .leaf (.cond .leaf .leaf)) (.seq (.block none .leaf) .leaf))
def JvO (r0 : Qr) : An := (.seq .leaf (.seq .leaf (.seq (.seq .leaf (.block none (.sum Jeo N45 r0))) (.seq .leaf .leaf))))
def JaJ (f : Nat) (rc : Int -> Bool -> Bool -> List PV -> Int -> Int -> List PV -> List PV -> OR) (k0 : Bool -> Bool -> List PV -> Int -> Int -> List PV -> List PV -> OR) (v0 : Int) (v1 v2 : Bool) (v3 : List PV) (v4 v5 : Int) (v6 v7 : List PV) : OR := bif decide (v0 < 32) then bif okT (RT.mk v3 v4 v5) then bif decide (0 <= v0) && decide (v0 < zi 32) && true then rc (IntKind.i64.wrap (v0 + 1)) v1 v2 ((Jh 1 (RT.mk v3 v4 v5)).B) ((Jh 1 (RT.mk v3 v4 v5)).P) ((Jh 1 (RT.mk v3 v4 v5)).e) v6 (v7.set v0.toNat (.sc (.int .u8 (IntKind.u8.wrap (Qj 1 (RT.mk v3 v4 v5)))))) else none else none else k0 v1 v2 v3 v4 v5 v6 v7
def Gx (f : Nat) (k0 : Bool -> Bool -> List PV -> Int -> Int -> List PV -> List PV -> OR) : Nat -> Int -> Bool -> Bool -> List PV -> Int -> Int -> List PV -> List PV -> OR
 | 0, _, _, _, _, _, _, _, _ => none
 | n + 1, v0, v1, v2, v3, v4, v5, v6, v7 => JaJ f (Gx f k0 n) k0 v0 v1 v2 v3 v4 v5 v6 v7
def JaK (k : Kont) := fun x0 x1 x2 x3 x4 x5 x6 => k (Ex.exit 0) (Ji JlC N45 [.ptr 273 [], .ptr 274 []] [(0, .box false 135 (PV.st 135 [.ro 5 x0 x1 x2, .sc (.int .i64 x3), .sc (.int .i64 x4)])), (273, .box false 37 (PV.ar 37 x5)), (274, .box false 37 (PV.ar 37 x6))])
def JlD (f : Nat) (k : Kont) (n : Nat) (v0 : Int) (v1 v2 : Bool) (v3 : List PV) (v4 v5 : Int) (v6 v7 : List PV) : OR := Jy tau 1 Jeo (fun s k => ev tau F45 1 0 Jow (JrW ) s k) n (Ji Jeo N45 [.ptr 0 [], .ptr 273 [], .ptr 274 [], .sc (.int .i64 v0)] [(0, .box false 135 (PV.st 135 [.ro 5 v1 v2 v3, .sc (.int .i64 v4), .sc (.int .i64 v5)])), (273, .box false 37 (PV.ar 37 v6)), (274, .box false 37 (PV.ar 37 v7))]) (JG tau 1 JlC k)
theorem JvP (f : Nat) (k : Kont) (n : Nat) (v0 : Int) (v1 v2 : Bool) (v3 : List PV) (v4 v5 : Int) (v6 v7 : List PV) : JlD f k (n + 1) v0 v1 v2 v3 v4 v5 v6 v7 = JaJ f (JlD f k n) (JaK k) v0 v1 v2 v3 v4 v5 v6 v7 := by kernel_rfl
theorem Jox (f : Nat) (k : Kont) : ∀ (n : Nat) (v0 : Int) (v1 v2 : Bool) (v3 : List PV) (v4 v5 : Int) (v6 v7 : List PV), JlD f k n v0 v1 v2 v3 v4 v5 v6 v7 = Gx f (JaK k) n v0 v1 v2 v3 v4 v5 v6 v7 | 0, _, _, _, _, _, _, _, _ => rfl | n + 1, v0, v1, v2, v3, v4, v5, v6, v7 => (JvP f k n v0 v1 v2 v3 v4 v5 v6 v7).trans (congrArg (fun r => JaJ f r (JaK k) v0 v1 v2 v3 v4 v5 v6 v7) (by funext v0 v1 v2 v3 v4 v5 v6 v7; exact Jox f k n v0 v1 v2 v3 v4 v5 v6 v7))
def Jep (f : Nat) : List PV -> List (Nat × Ent) -> Kont -> OR
 | [.ptr 0 [], .ptr 273 [], .ptr 274 [],
 PV.sc
  (Value.int IntKind.i64
   v0)], [(0, .box false 135 (PV.st 135 [.ro 5 v1 v2 v3, .sc (.int .i64 v4), .sc (.int .i64 v5)])), (273, .box false 37 (PV.ar 37 v6)),
 (274,
  Ent.box false 37
   (PV.ar 37
    v7))], k => Gx f (JaK k) f v0 v1 v2 v3 v4 v5 v6 v7
 | _, _, _ => none
theorem JA5 (f : Nat) : Jf Jow JrW = [] := by kernel_rfl
theorem JA6 (f : Nat) : (Item.l Jow Jeo N45 (Jep f)).Ok tau Try.prog 1 := Ju Jn JrV Jo (x := JrW) (nm2 := JlC) (Jk _ _ (by rw [JA5 f]; intro q hq; cases hq)) fun vs hp k res hr => by
 unfold Jep at hr
 split at hr
 · exact ⟨f, 0, (Jox f _ f _ _ _ _ _ _ _ _ ).trans hr⟩
 · cases hr
abbrev JrX := ([PV.sc (.int .u8 0), PV.sc (.int .u8 0), PV.sc (.int .u8 0), PV.sc (.int .u8 0), PV.sc (.int .u8 0), PV.sc (.int .u8 0), PV.sc (.int .u8 0), PV.sc (.int .u8 0), PV.sc (.int .u8 0), PV.sc (.int .u8 0), PV.sc (.int .u8 0), PV.sc (.int .u8 0), PV.sc (.int .u8 0), PV.sc (.int .u8 0), PV.sc (.int .u8 0), PV.sc (.int .u8 0), PV.sc (.int .u8 0), PV.sc (.int .u8 0), PV.sc (.int .u8 0), PV.sc (.int .u8 0), PV.sc (.int .u8 0), PV.sc (.int .u8 0), PV.sc (.int .u8 0), PV.sc (.int .u8 0), PV.sc (.int .u8 0), PV.sc (.int .u8 0), PV.sc (.int .u8 0), PV.sc (.int .u8 0), PV.sc (.int .u8 0), PV.sc (.int .u8 0), PV.sc (.int .u8 0), PV.sc (.int .u8 0)])
def g45 (f : Nat) (y0 y1 : Bool) (r_B : List PV) (r_P y2 : Int) (k : KR) : OR := Gx f (fun x0_0 x1_0 x2_0 x3_0 x4_0 _ x6_0 => k (Res.mk (.ar 37 x6_0) [.box false 135 (PV.st 135 [.ro 5 x0_0 x1_0 x2_0, .sc (.int .i64 x3_0), .sc (.int .i64 x4_0)])] [])) f (0) y0 y1 r_B r_P y2 JrX JrX
theorem e45 (f : Nat) (y0 y1 : Bool) (r_B : List PV) (r_P y2 : Int) (k : KR) : JJ tau F45 Try.f45 (Try.f45.body.get!) (JvO (Jep f)) [.ro] 0 [.ptr 0 []] [.box false 135 (.st 135 [.ro 5 y0 y1 r_B, .sc (.int .i64 r_P), .sc (.int .i64 y2)])] k = g45 f y0 y1 r_B r_P y2 k := by kernel_rfl
theorem JMf (f : Nat) : Jf (Try.f45.body.get!) (JvO (Jep f)) = [.l Jow Jeo N45 (Jep f)] := by kernel_rfl
theorem JMg (f : Nat) : ∀ q ∈ Jf (Try.f45.body.get!) (JvO (Jep f)), q.Ok tau Try.prog 1 := by rw [JMf f]; exact JL (JA6 f) (fun _ h => nomatch h)
theorem JFU : Try.prog.funcs[45]? = some Try.f45 := by kernel_rfl
theorem JFV : Try.f45.body = some (Try.f45.body.get!) := by kernel_rfl
theorem JMh : Enters Try.prog 45 := enters_of JFU (by kernel_rfl) JFV
def JFW : Fns := F0
theorem JvQ : Jq tau Try.prog JFW := Js
def JrY : An := (.seq .leaf (.seq .leaf (.seq .leaf .leaf)))
def JFX (f : Nat) (x k1 : Int) (k : KR) : OR := bif decide (0 <= IntKind.u64.wrap (32 - JM BinOp.and IntKind.u64 (IntKind.u64.wrap k1) 31)) && true then k (Res.mk (.sc (.int .u32 (JM BinOp.or IntKind.u32 (Xs IntKind.u32 x (JM BinOp.and IntKind.u64 (IntKind.u64.wrap k1) 31)) (JV IntKind.u32 x (IntKind.u64.wrap (32 - JM BinOp.and IntKind.u64 (IntKind.u64.wrap k1) 31)))))) [] []) else none
theorem JMi (f : Nat) (x k1 : Int) (k : KR) : JJ tau JFW Try.f134 (Try.f134.body.get!) JrY [.ro] 0 [.sc (.int .u32 x), .sc (.int .i64 k1)] [] k = JFX f x k1 k := by kernel_rfl
theorem JFY (f : Nat) : ∀ q ∈ Jf (Try.f134.body.get!) JrY, q.Ok tau Try.prog 0 := Jw (by kernel_rfl)
theorem Jyw : Try.prog.funcs[134]? = some Try.f134 := by kernel_rfl
theorem Jyx : Try.f134.body = some (Try.f134.body.get!) := by kernel_rfl
theorem JFZ : Enters Try.prog 134 := enters_of Jyw (by kernel_rfl) Jyx
def JlE : Jz
 | [.sc (.int .u32 x), .sc (.int .i64 k1)], [], k => JFX 0 x k1 k
 | _, _, _ => none
def JF0 : Sig := { own := [], run := JlE }
theorem JF1 : Jc tau Try.prog 134 JF0 := JN Jn JvQ Jo Jyw Jyx JrY [.ro] 0 [] JlE (JFY 0) fun xs es k res hr => by
 unfold JlE at hr
 split at hr
 · exact ⟨rfl, 0, (JMi 0 _ _  _).trans hr⟩
 · cases hr
def JF2 : Fns := Jt 134 JF0 (F0)
theorem JvR : Jq tau Try.prog JF2 := (Js).add JF1 JFZ
def JrZ : An := (.seq .leaf (.seq .leaf .leaf))
def JvS (f : Nat) (x n : Int) (k : KR) : OR := bif decide (0 <= IntKind.u64.wrap (32 - JM BinOp.and IntKind.u64 (IntKind.u64.wrap (IntKind.i64.wrap (0 - n))) 31)) && true then k (Res.mk (.sc (.int .u32 (JM BinOp.or IntKind.u32 (Xs IntKind.u32 x (JM BinOp.and IntKind.u64 (IntKind.u64.wrap (IntKind.i64.wrap (0 - n))) 31)) (JV IntKind.u32 x (IntKind.u64.wrap (32 - JM BinOp.and IntKind.u64 (IntKind.u64.wrap (IntKind.i64.wrap (0 - n))) 31)))))) [] []) else none
theorem JMj (f : Nat) (x n : Int) (k : KR) : JJ tau JF2 Try.f117 (Try.f117.body.get!) JrZ [.ro] 0 [.sc (.int .u32 x), .sc (.int .i64 n)] [] k = JvS f x n k := by kernel_rfl
theorem JF3 (f : Nat) : ∀ q ∈ Jf (Try.f117.body.get!) JrZ, q.Ok tau Try.prog 0 := Jw (by kernel_rfl)
theorem Jyy : Try.prog.funcs[117]? = some Try.f117 := by kernel_rfl
theorem Jyz : Try.f117.body = some (Try.f117.body.get!) := by kernel_rfl
theorem JyA : Enters Try.prog 117 := enters_of Jyy (by kernel_rfl) Jyz
def JlF : Jz
 | [.sc (.int .u32 x), .sc (.int .i64 n)], [], k => JvS 0 x n k
 | _, _, _ => none
def JMk : Sig := { own := [], run := JlF }
theorem JF4 : Jc tau Try.prog 117 JMk := JN Jn JvR Jo Jyy Jyz JrZ [.ro] 0 [] JlF (JF3 0) fun xs es k res hr => by
 unfold JlF at hr
 split at hr
 · exact ⟨rfl, 0, (JMj 0 _ _  _).trans hr⟩
 · cases hr
def F96 : Fns := F0
theorem JA7 : Jq tau Try.prog F96 := Js
def JA8 : An := (.seq .leaf (.seq .leaf .leaf))
def g96 (f : Nat) (x n : Int) (k : KR) : OR := bif decide (0 <= n) && true then bif decide (0 <= IntKind.u64.wrap (32 - n)) && true then k (Res.mk (.sc (.int .u32 (JM BinOp.or IntKind.u32 (JV IntKind.u32 x n) (Xs IntKind.u32 x (IntKind.u64.wrap (32 - n)))))) [] []) else none else none
theorem e96 (f : Nat) (x n : Int) (k : KR) : JJ tau F96 Try.f96 (Try.f96.body.get!) JA8 [.ro] 0 [.sc (.int .u32 x), .sc (.int .u64 n)] [] k = g96 f x n k := by kernel_rfl
theorem JMl (f : Nat) : ∀ q ∈ Jf (Try.f96.body.get!) JA8, q.Ok tau Try.prog 0 := Jw (by kernel_rfl)
theorem JF5 : Try.prog.funcs[96]? = some Try.f96 := by kernel_rfl
theorem JF6 : Try.f96.body = some (Try.f96.body.get!) := by kernel_rfl
theorem JMm : Enters Try.prog 96 := enters_of JF5 (by kernel_rfl) JF6
def Jr0 : Jz
 | [.sc (.int .u32 x), .sc (.int .u64 n)], [], k => g96 0 x n k
 | _, _, _ => none
def s96 : Sig := { own := [], run := Jr0 }
theorem JMn : Jc tau Try.prog 96 s96 := JN Jn JA7 Jo JF5 JF6 JA8 [.ro] 0 [] Jr0 (JMl 0) fun xs es k res hr => by
 unfold Jr0 at hr
 split at hr
 · exact ⟨rfl, 0, (e96 0 _ _  _).trans hr⟩
 · cases hr
-- FN sha.right | ref2.rot
def rr (x n : Int) : Int := JM .or .u32 (Xs .u32 x (32 - n)) (JV .u32 x n)
theorem Jhy (x y : Int) : JM .or .u32 x y = JM .or .u32 y x := by
 simp only [JM]; rw [BitVec.or_comm]
theorem Jr1 {P : Int -> Prop} (h : ∀ m : Nat, m < 31 -> P ((m : Int) + 1)) (n : Int) (h1 : 1 <= n) (h2 : n <= 31) : P n := by
 have := h (n - 1).toNat (by omega)
 have he : (((n - 1).toNat : Nat) : Int) + 1 = n := by omega
 rwa [he] at this
def Jhz : Jz
 | [.sc (.int .u32 x), .sc (.int .i64 n)], [], k => bif decide (1 <= n) && decide (n <= 31) then k ⟨.sc (.int .u32 (rr x n)), [], []⟩ else none
 | _, _, _ => none
def Jr2 : Sig := { own := [], run := Jhz }
theorem JlG (x : Int) (k : KR) (n : Int) (h1 : 1 <= n) (h2 : n <= 31) : JvS 0 x n k = k ⟨.sc (.int .u32 (rr x n)), [], []⟩ := by
 refine Jr1 (P := fun n => JvS 0 x n k = k ⟨.sc (.int .u32 (rr x n)), [], []⟩) ?_ n h1 h2
 intro m hm
 iterate 31 (rcases m with _ | m; · kernel_rfl)
 omega
theorem Jr3 : Jc tau Try.prog 117 Jr2 := JF4.of fun xs es k res hr => by
 change Jhz xs es k = some res at hr
 unfold Jhz at hr
 split at hr
 · obtain ⟨hc, hr⟩ := Jv hr
   simp only [Bool.and_eq_true, decide_eq_true_eq] at hc
   exact (JlG _ _ _ hc.1 hc.2).trans hr
 · cases hr
def JlH : Jz
 | [.sc (.int .u32 x), .sc (.int .u64 n)], [], k => bif decide (1 <= n) && decide (n <= 31) then k ⟨.sc (.int .u32 (rr x n)), [], []⟩ else none
 | _, _, _ => none
def JF7 : Sig := { own := [], run := JlH }
theorem Jqv (x : Int) (k : KR) (n : Int) (h1 : 1 <= n) (h2 : n <= 31) : g96 0 x n k = k ⟨.sc (.int .u32 (rr x n)), [], []⟩ := by
 have hc : ∀ n, rr x n = JM .or .u32 (JV .u32 x n) (Xs .u32 x (32 - n)) := fun n => Jhy _ _
 rw [hc]
 refine Jr1 (P := fun n => g96 0 x n k = k ⟨.sc (.int .u32 (JM .or .u32 (JV .u32 x n) (Xs .u32 x (32 - n)))), [], []⟩) ?_ n h1 h2
 intro m hm
 iterate 31 (rcases m with _ | m; · kernel_rfl)
 omega
theorem JF8 : Jc tau Try.prog 96 JF7 := JMn.of fun xs es k res hr => by
 change JlH xs es k = some res at hr
 unfold JlH at hr
 split at hr
 · obtain ⟨hc, hr⟩ := Jv hr
   simp only [Bool.and_eq_true, decide_eq_true_eq] at hc
   exact (Jqv _ _ _ hc.1 hc.2).trans hr
 · cases hr
def JfU : Nat := 89
def JvT : Fns := Jt 117 Jr2 (F0)
theorem JhA : Jq tau Try.prog JvT := (Js).add Jr3 JyA
def JhB : Code := Qd (Try.f115.body.get!) [1, 1, 0, 1, 0, 0]
def JaL : Nm := [(0, .any), (2, .any), (3, .any), (8, .any)]
def JhC : Nm := [(2, .any), (3, .any)]
def JlI : An := (.seq .leaf (.seq (.cond .leaf .leaf) (.seq (.block none (.seq .leaf .leaf)) .leaf)))
def JhD : Code := Qd (Try.f115.body.get!) [1, 1, 1, 0, 1, 0, 0]
def JaM : Nm := [(2, .any), (3, .any), (5, .any)]
def JhE : Nm := [(2, .any), (3, .any)]
def JlJ : An := (.seq (.seq .leaf (.cond .leaf .leaf)) (.seq (.block none (.seq .leaf .leaf)) .leaf))
def Jr4 (r0 : Qr) (r1 : Qr) : An := (.seq .leaf (.seq .leaf (.seq (.seq .leaf (.block none (.sum JaL JfU r0))) (.seq (.seq .leaf (.block none (.sum JaM JfU r1))) (.seq .leaf .leaf)))))
def Z2 (f : Nat) (rc : Bool -> Bool -> List PV -> Int -> List PV -> List PV -> OR) (k0 : List PV -> List PV -> OR) (v0 v1 : Bool) (v2 : List PV) (v3 : Int) (v4 v5 : List PV) : OR := bif decide (v3 < 16) then bif decide (0 <= IntKind.i64.wrap (4 * v3)) && decide (IntKind.i64.wrap (4 * v3) < zi v2.length) && PV.isInt IntKind.u8 (v2.getD (IntKind.i64.wrap (4 * v3)).toNat PV.top) && true then bif decide (0 <= IntKind.i64.wrap (IntKind.i64.wrap (4 * v3) + 1)) && decide (IntKind.i64.wrap (IntKind.i64.wrap (4 * v3) + 1) < zi v2.length) && PV.isInt IntKind.u8 (v2.getD (IntKind.i64.wrap (IntKind.i64.wrap (4 * v3) + 1)).toNat PV.top) && true then bif decide (0 <= IntKind.i64.wrap (IntKind.i64.wrap (4 * v3) + 2)) && decide (IntKind.i64.wrap (IntKind.i64.wrap (4 * v3) + 2) < zi v2.length) && PV.isInt IntKind.u8 (v2.getD (IntKind.i64.wrap (IntKind.i64.wrap (4 * v3) + 2)).toNat PV.top) && true then bif decide (0 <= IntKind.i64.wrap (IntKind.i64.wrap (4 * v3) + 3)) && decide (IntKind.i64.wrap (IntKind.i64.wrap (4 * v3) + 3) < zi v2.length) && PV.isInt IntKind.u8 (v2.getD (IntKind.i64.wrap (IntKind.i64.wrap (4 * v3) + 3)).toNat PV.top) && true then bif decide (0 <= v3) && decide (v3 < zi 64) && true then rc v0 v1 v2 (IntKind.i64.wrap (v3 + 1)) v4 (v5.set v3.toNat (.sc (.int .u32 (JM BinOp.or IntKind.u32 (JM BinOp.or IntKind.u32 (JM BinOp.or IntKind.u32 (Xs IntKind.u32 (IntKind.u32.wrap (v2.getD (IntKind.i64.wrap (4 * v3)).toNat PV.top).int) 24) (Xs IntKind.u32 (IntKind.u32.wrap (v2.getD (IntKind.i64.wrap (IntKind.i64.wrap (4 * v3) + 1)).toNat PV.top).int) 16)) (Xs IntKind.u32 (IntKind.u32.wrap (v2.getD (IntKind.i64.wrap (IntKind.i64.wrap (4 * v3) + 2)).toNat PV.top).int) 8)) (IntKind.u32.wrap (v2.getD (IntKind.i64.wrap (IntKind.i64.wrap (4 * v3) + 3)).toNat PV.top).int))))) else none else none else none else none else none else k0 v4 v5
def Yh (f : Nat) (k0 : List PV -> List PV -> OR) : Nat -> Bool -> Bool -> List PV -> Int -> List PV -> List PV -> OR
 | 0, _, _, _, _, _, _ => none
 | n + 1, v0, v1, v2, v3, v4, v5 => Z2 f (Yh f k0 n) k0 v0 v1 v2 v3 v4 v5
def VJ (k : Kont) := fun x0 x1 => k (Ex.exit 0) (Ji JhC JfU [.ptr 1440 [], .ptr 1441 []] [(1440, .box false 159 (PV.ar 159 x0)), (1441, .box false 159 (PV.ar 159 x1))])
def JhF (f : Nat) (k : Kont) (n : Nat) (v0 v1 : Bool) (v2 : List PV) (v3 : Int) (v4 v5 : List PV) : OR := Jy tau 0 JaL (fun s k => ev tau JvT 0 0 JhB (JlI ) s k) n (Ji JaL JfU [.ro 5 v0 v1 v2, .ptr 1440 [], .ptr 1441 [], .sc (.int .i64 v3)] [(1440, .box false 159 (PV.ar 159 v4)), (1441, .box false 159 (PV.ar 159 v5))]) (JG tau 0 JhC k)
theorem Jr5 (f : Nat) (k : Kont) (n : Nat) (v0 v1 : Bool) (v2 : List PV) (v3 : Int) (v4 v5 : List PV) : JhF f k (n + 1) v0 v1 v2 v3 v4 v5 = Z2 f (JhF f k n) (VJ k) v0 v1 v2 v3 v4 v5 := by kernel_rfl
theorem JjO (f : Nat) (k : Kont) : ∀ (n : Nat) (v0 v1 : Bool) (v2 : List PV) (v3 : Int) (v4 v5 : List PV), JhF f k n v0 v1 v2 v3 v4 v5 = Yh f (VJ k) n v0 v1 v2 v3 v4 v5 | 0, _, _, _, _, _, _ => rfl | n + 1, v0, v1, v2, v3, v4, v5 => (Jr5 f k n v0 v1 v2 v3 v4 v5).trans (congrArg (fun r => Z2 f r (VJ k) v0 v1 v2 v3 v4 v5) (by funext v0 v1 v2 v3 v4 v5; exact JjO f k n v0 v1 v2 v3 v4 v5))
def Jcf (f : Nat) : List PV -> List (Nat × Ent) -> Kont -> OR
 | [.ro 5 v0 v1 v2, .ptr 1440 [], .ptr 1441 [],
 PV.sc
  (Value.int IntKind.i64
   v3)], [(1440, .box false 159 (PV.ar 159 v4)),
 (1441,
  Ent.box false 159
   (PV.ar 159
    v5))], k => Yh f (VJ k) f v0 v1 v2 v3 v4 v5
 | _, _, _ => none
theorem JvU (f : Nat) : Jf JhB JlI = [] := by kernel_rfl
theorem JvV (f : Nat) : (Item.l JhB JaL JfU (Jcf f)).Ok tau Try.prog 0 := Ju Jn JhA Jo (x := JlI) (nm2 := JhC) (Jk _ _ (by rw [JvU f]; intro q hq; cases hq)) fun vs hp k res hr => by
 unfold Jcf at hr
 split at hr
 · exact ⟨f, 0, (JjO f _ f _ _ _ _ _ _ ).trans hr⟩
 · cases hr
abbrev Wk (v0 : Int) (v2 : List PV) := (Jr (PV.ar 159 v2) [(IntKind.i64.wrap (v0 - 15)).toNat])
abbrev Wl (v0 : Int) (v2 : List PV) := (Jr (PV.ar 159 v2) [(IntKind.i64.wrap (v0 - 2)).toNat])
def Z3 (f : Nat) (rc : Int -> List PV -> List PV -> OR) (k0 : List PV -> List PV -> OR) (v0 : Int) (v1 v2 : List PV) : OR := bif decide (v0 < 64) then bif decide (0 <= IntKind.i64.wrap (v0 - 15)) && decide (IntKind.i64.wrap (v0 - 15) < zi 64) && true then bif PV.isInt IntKind.u32 (Wk v0 v2) && true then bif decide (0 <= IntKind.i64.wrap (v0 - 2)) && decide (IntKind.i64.wrap (v0 - 2) < zi 64) && true then bif PV.isInt IntKind.u32 (Wl v0 v2) && true then bif decide (0 <= IntKind.i64.wrap (v0 - 16)) && decide (IntKind.i64.wrap (v0 - 16) < zi 64) && true then bif PV.isInt IntKind.u32 (Jr (PV.ar 159 v2) [(IntKind.i64.wrap (v0 - 16)).toNat]) && true then bif decide (0 <= IntKind.i64.wrap (v0 - 7)) && decide (IntKind.i64.wrap (v0 - 7) < zi 64) && true then bif PV.isInt IntKind.u32 (Jr (PV.ar 159 v2) [(IntKind.i64.wrap (v0 - 7)).toNat]) && true then bif decide (0 <= v0) && decide (v0 < zi 64) && true then rc (IntKind.i64.wrap (v0 + 1)) v1 (v2.set v0.toNat (.sc (.int .u32 (IntKind.u32.wrap (IntKind.u32.wrap (IntKind.u32.wrap ((Jr (PV.ar 159 v2) [(IntKind.i64.wrap (v0 - 16)).toNat]).int + JM BinOp.xor IntKind.u32 (JM BinOp.xor IntKind.u32 (rr (Wk v0 v2).int 7) (rr (Wk v0 v2).int 18)) (JV IntKind.u32 (Wk v0 v2).int 3)) + (Jr (PV.ar 159 v2) [(IntKind.i64.wrap (v0 - 7)).toNat]).int) + JM BinOp.xor IntKind.u32 (JM BinOp.xor IntKind.u32 (rr (Wl v0 v2).int 17) (rr (Wl v0 v2).int 19)) (JV IntKind.u32 (Wl v0 v2).int 10)))))) else none else none else none else none else none else none else none else none else none else k0 v1 v2
def Yi (f : Nat) (k0 : List PV -> List PV -> OR) : Nat -> Int -> List PV -> List PV -> OR
 | 0, _, _, _ => none
 | n + 1, v0, v1, v2 => Z3 f (Yi f k0 n) k0 v0 v1 v2
def VK (k : Kont) := fun x0 x1 => k (Ex.exit 2) (Ji JhE JfU [.ptr 1440 [], .ptr 1441 []] [(1440, .box false 159 (PV.ar 159 x0)), (1441, .box false 159 (PV.ar 159 x1))])
def JhG (f : Nat) (k : Kont) (n : Nat) (v0 : Int) (v1 v2 : List PV) : OR := Jy tau 0 JaM (fun s k => ev tau JvT 0 0 JhD (JlJ ) s k) n (Ji JaM JfU [.ptr 1440 [], .ptr 1441 [], .sc (.int .i64 v0)] [(1440, .box false 159 (PV.ar 159 v1)), (1441, .box false 159 (PV.ar 159 v2))]) (JG tau 0 JhE k)
theorem Jr6 (f : Nat) (k : Kont) (n : Nat) (v0 : Int) (v1 v2 : List PV) : JhG f k (n + 1) v0 v1 v2 = Z3 f (JhG f k n) (VK k) v0 v1 v2 := by kernel_rfl
theorem JjP (f : Nat) (k : Kont) : ∀ (n : Nat) (v0 : Int) (v1 v2 : List PV), JhG f k n v0 v1 v2 = Yi f (VK k) n v0 v1 v2 | 0, _, _, _ => rfl | n + 1, v0, v1, v2 => (Jr6 f k n v0 v1 v2).trans (congrArg (fun r => Z3 f r (VK k) v0 v1 v2) (by funext v0 v1 v2; exact JjP f k n v0 v1 v2))
def Jcg (f : Nat) : List PV -> List (Nat × Ent) -> Kont -> OR
 | [.ptr 1440 [], .ptr 1441 [],
 PV.sc
  (Value.int IntKind.i64
   v0)], [(1440, .box false 159 (PV.ar 159 v1)),
 (1441,
  Ent.box false 159
   (PV.ar 159
    v2))], k => Yi f (VK k) f v0 v1 v2
 | _, _, _ => none
theorem JvW (f : Nat) : Jf JhD JlJ = [] := by kernel_rfl
theorem JvX (f : Nat) : (Item.l JhD JaM JfU (Jcg f)).Ok tau Try.prog 0 := Ju Jn JhA Jo (x := JlJ) (nm2 := JhE) (Jk _ _ (by rw [JvW f]; intro q hq; cases hq)) fun vs hp k res hr => by
 unfold Jcg at hr
 split at hr
 · exact ⟨f, 0, (JjP f _ f _ _ _ ).trans hr⟩
 · cases hr
abbrev Joy := ([PV.sc (.int .u32 0), PV.sc (.int .u32 0), PV.sc (.int .u32 0), PV.sc (.int .u32 0), PV.sc (.int .u32 0), PV.sc (.int .u32 0), PV.sc (.int .u32 0), PV.sc (.int .u32 0), PV.sc (.int .u32 0), PV.sc (.int .u32 0), PV.sc (.int .u32 0), PV.sc (.int .u32 0), PV.sc (.int .u32 0), PV.sc (.int .u32 0), PV.sc (.int .u32 0), PV.sc (.int .u32 0), PV.sc (.int .u32 0), PV.sc (.int .u32 0), PV.sc (.int .u32 0), PV.sc (.int .u32 0), PV.sc (.int .u32 0), PV.sc (.int .u32 0), PV.sc (.int .u32 0), PV.sc (.int .u32 0), PV.sc (.int .u32 0), PV.sc (.int .u32 0), PV.sc (.int .u32 0), PV.sc (.int .u32 0), PV.sc (.int .u32 0), PV.sc (.int .u32 0), PV.sc (.int .u32 0), PV.sc (.int .u32 0), PV.sc (.int .u32 0), PV.sc (.int .u32 0), PV.sc (.int .u32 0), PV.sc (.int .u32 0), PV.sc (.int .u32 0), PV.sc (.int .u32 0), PV.sc (.int .u32 0), PV.sc (.int .u32 0), PV.sc (.int .u32 0), PV.sc (.int .u32 0), PV.sc (.int .u32 0), PV.sc (.int .u32 0), PV.sc (.int .u32 0), PV.sc (.int .u32 0), PV.sc (.int .u32 0), PV.sc (.int .u32 0), PV.sc (.int .u32 0), PV.sc (.int .u32 0), PV.sc (.int .u32 0), PV.sc (.int .u32 0), PV.sc (.int .u32 0), PV.sc (.int .u32 0), PV.sc (.int .u32 0), PV.sc (.int .u32 0), PV.sc (.int .u32 0), PV.sc (.int .u32 0), PV.sc (.int .u32 0), PV.sc (.int .u32 0), PV.sc (.int .u32 0), PV.sc (.int .u32 0), PV.sc (.int .u32 0), PV.sc (.int .u32 0)])
def JF9 (f : Nat) (b_z b_f : Bool) (b : List PV) (k : KR) : OR := Yh f (fun x0_0 x1_0 => Yi f (fun _ x1_1 => k (Res.mk (.ar 159 x1_1) [] [])) f (16) x0_0 x1_0) f b_z b_f b (0) Joy Joy
theorem JMo (f : Nat) (b_z b_f : Bool) (b : List PV) (k : KR) : JJ tau JvT Try.f115 (Try.f115.body.get!) (Jr4 (Jcf f) (Jcg f)) [] 0 [.ro 5 b_z b_f b] [] k = JF9 f b_z b_f b k := by kernel_rfl
theorem JGa (f : Nat) : Jf (Try.f115.body.get!) (Jr4 (Jcf f) (Jcg f)) = [.l JhB JaL JfU (Jcf f), .l JhD JaM JfU (Jcg f)] := by kernel_rfl
theorem JGb (f : Nat) : ∀ q ∈ Jf (Try.f115.body.get!) (Jr4 (Jcf f) (Jcg f)), q.Ok tau Try.prog 0 := by rw [JGa f]; exact JL (JvV f) (JL (JvX f) (fun _ h => nomatch h))
theorem JyB : Try.prog.funcs[115]? = some Try.f115 := by kernel_rfl
theorem JyC : Try.f115.body = some (Try.f115.body.get!) := by kernel_rfl
theorem JGc : Enters Try.prog 115 := enters_of JyB (by kernel_rfl) JyC
-- FN sha.spread
abbrev ww (x : Int) : Int := IntKind.u32.wrap x
def JGd (a b c d : Int) : Int := JM .or .u32 (JM .or .u32 (JM .or .u32 (Xs .u32 (ww a) 24) (Xs .u32 (ww b) 16)) (Xs .u32 (ww c) 8)) (ww d)
def sg0 (x : Int) : Int := JM .xor .u32 (JM .xor .u32 (rr x 7) (rr x 18)) (JV .u32 x 3)
def sg1 (x : Int) : Int := JM .xor .u32 (JM .xor .u32 (rr x 17) (rr x 19)) (JV .u32 x 10)
def JA9 (w16 w15 w7 w2 : Int) : Int := ww (ww (ww (w16 + sg0 w15) + w7) + sg1 w2)
def word (bs : List Int) (j : Nat) : Int := JGd (bs.getD (4 * j) 0) (bs.getD (4 * j + 1) 0) (bs.getD (4 * j + 2) 0) (bs.getD (4 * j + 3) 0)
def QV (bs : List Int) : Nat -> List Int
 | 0 => (List.range 16).map (word bs)
 | i + 1 => QV bs i ++ [JA9 ((QV bs i).getD i 0) ((QV bs i).getD (i + 1) 0) ((QV bs i).getD (i + 9) 0) ((QV bs i).getD (i + 14) 0)]
def Qp (bs : List Int) : List Int := QV bs 48
theorem Qe (bs : List Int) : ∀ i, (QV bs i).length = 16 + i
 | 0 => by simp [QV]
 | i + 1 => by simp [QV, Qe bs i]; omega
def Jeq (bs : List Int) (i : Nat) : List Int := (List.range i).map (word bs) ++ List.replicate (64 - i) 0
def JcX (bs : List Int) (i : Nat) : List Int := QV bs i ++ List.replicate (48 - i) 0
theorem JhH (bs : List Int) (i : Nat) (h : i <= 48) : (JcX bs i).length = 64 := by simp [JcX, Qe]; omega
theorem JjQ (L : List Int) (m : Nat) (x : Int) : (L ++ List.replicate (m + 1) 0).set L.length x = (L ++ [x]) ++ List.replicate m 0 := by
 simp [List.replicate_succ]
theorem Jqw (bs : List Int) (i : Nat) (h : i < 64) : (Jeq bs i).set i (word bs i) = Jeq bs (i + 1) := by
 have := JjQ ((List.range i).map (word bs)) (63 - i) (word bs i)
 simp only [List.length_map, List.length_range] at this
 simp only [Jeq, show 64 - i = 63 - i + 1 from by omega, this, show 64 - (i + 1) = 63 - i from by omega, List.range_succ, List.map_append, List.map_cons, List.map_nil]
theorem VL (bs : List Int) (i j : Nat) (h : j < 16 + i) : (JcX bs i).getD j 0 = (QV bs i).getD j 0 := by
 simp only [JcX, List.getD_eq_getElem?_getD]
 rw [List.getElem?_append_left (by rw [Qe]; exact h)]
theorem Jqx (bs : List Int) (i : Nat) (h : i < 48) (x : Int) : (JcX bs i).set (i + 16) x = (QV bs i ++ [x]) ++ List.replicate (48 - (i + 1)) 0 := by
 have := JjQ (QV bs i) (47 - i) x
 rw [Qe] at this
 rw [JcX, show 48 - i = 47 - i + 1 from by omega, show i + 16 = 16 + i from by omega, this, show 48 - (i + 1) = 47 - i from by omega]
theorem Jr7 (bs : List Int) (hb : bs.length = 64) (f : Nat) (k0 : List PV -> List PV -> OR) (nl fl : Bool) (w : List PV) : ∀ (d i n : Nat), i + d = 16 -> d < n ->
  Yh f k0 n nl fl (pu .u8 bs) (i : Int) w (pu .u32 (Jeq bs i)) = k0 w (pu .u32 (Jeq bs 16))
 | 0, i, n + 1, h, hn => by
   obtain rfl : i = 16 := by omega
   simp only [Yh, Z2]
   exact Jd (by decide)
 | d + 1, i, n + 1, h, hn => by
   have h4 : IntKind.i64.wrap (4 * (i : Int)) = ((4 * i : Nat) : Int) := by rw [wrap_i64 (by omega) (by omega)]; omega
   have h41 : IntKind.i64.wrap (((4 * i : Nat) : Int) + 1) = ((4 * i + 1 : Nat) : Int) := by rw [wrap_i64 (by omega) (by omega)]; omega
   have h42 : IntKind.i64.wrap (((4 * i : Nat) : Int) + 2) = ((4 * i + 2 : Nat) : Int) := by rw [wrap_i64 (by omega) (by omega)]; omega
   have h43 : IntKind.i64.wrap (((4 * i : Nat) : Int) + 3) = ((4 * i + 3 : Nat) : Int) := by rw [wrap_i64 (by omega) (by omega)]; omega
   have h5 : IntKind.i64.wrap ((i : Int) + 1) = ((i + 1 : Nat) : Int) := by rw [wrap_i64 (by omega) (by omega)]; omega
   simp only [Yh, Z2, h4, h41, h42, h43, h5, Int.toNat_natCast, zi]
   rw [J6 (by omega), J6 (by omega), J6 (by omega), J6 (by omega), QD (by omega), QD (by omega), QD (by omega), QD (by omega), JI, Xp]
   refine (Ja (by simp; omega)).trans ?_
   refine (Ja (by simp; omega)).trans ?_
   refine (Ja (by simp; omega)).trans ?_
   refine (Ja (by simp; omega)).trans ?_
   refine (Ja (by simp; omega)).trans ?_
   refine (Ja (by simp; omega)).trans ?_
   have := Jr7 bs hb f k0 nl fl w d (i + 1) n (by omega) (by omega)
   rw [← Jqw bs i (by omega)] at this
   exact this
theorem Jr8 (bs : List Int) (f : Nat) (k0 : List PV -> List PV -> OR) (w : List PV) : ∀ (d i n : Nat), i + d = 48 -> d < n ->
  Yi f k0 n ((i + 16 : Nat) : Int) w (pu .u32 (JcX bs i)) = k0 w (pu .u32 (QV bs 48))
 | 0, i, n + 1, h, hn => by
   obtain rfl : i = 48 := by omega
   simp only [Yi, Z3, Wl, Wk]
   exact (Jd (by decide)).trans (by simp [JcX])
 | d + 1, i, n + 1, h, hn => by
   have h15 : IntKind.i64.wrap (((i + 16 : Nat) : Int) - 15) = ((i + 1 : Nat) : Int) := by rw [wrap_i64 (by omega) (by omega)]; omega
   have h2 : IntKind.i64.wrap (((i + 16 : Nat) : Int) - 2) = ((i + 14 : Nat) : Int) := by rw [wrap_i64 (by omega) (by omega)]; omega
   have h16 : IntKind.i64.wrap (((i + 16 : Nat) : Int) - 16) = ((i : Nat) : Int) := by rw [wrap_i64 (by omega) (by omega)]; omega
   have h7 : IntKind.i64.wrap (((i + 16 : Nat) : Int) - 7) = ((i + 9 : Nat) : Int) := by rw [wrap_i64 (by omega) (by omega)]; omega
   have h1 : IntKind.i64.wrap (((i + 16 : Nat) : Int) + 1) = ((i + 1 + 16 : Nat) : Int) := by rw [wrap_i64 (by omega) (by omega)]; omega
   have hl := JhH bs i (by omega)
   simp only [Yi, Z3, Wl, Wk, h15, h2, h16, h7, h1, Int.toNat_natCast, zi, Ye]
   rw [J6 (by omega), J6 (by omega), J6 (by omega), J6 (by omega), QD (by omega), QD (by omega), QD (by omega), QD (by omega), Xp]
   refine (Ja (by simp; omega)).trans ?_
   refine (Ja (by simp; omega)).trans ?_
   refine (Ja (by simp)).trans ?_
   refine (Ja (by simp; omega)).trans ?_
   refine (Ja (by simp)).trans ?_
   refine (Ja (by simp; omega)).trans ?_
   refine (Ja (by simp)).trans ?_
   refine (Ja (by simp; omega)).trans ?_
   refine (Ja (by simp)).trans ?_
   refine (Ja (by simp; omega)).trans ?_
   have := Jr8 bs f k0 w d (i + 1) n (by omega) (by omega)
   rw [VL bs i i (by omega), VL bs i (i + 1) (by omega), VL bs i (i + 9) (by omega), VL bs i (i + 14) (by omega), Jqx bs i (by omega)]
   exact this
theorem JvY (bs : List Int) (hb : bs.length = 64) (nl fl : Bool) (k : KR) : JF9 100 nl fl (pu .u8 bs) k = k ⟨.ar 159 (pu .u32 (Qp bs)), [], []⟩ := by
 have h0 : ∀ k0 w, Yh 100 k0 100 nl fl (pu .u8 bs) 0 w (pu .u32 (List.replicate 64 0)) = k0 w (pu .u32 (Jeq bs 16)) := fun k0 w => Jr7 bs hb 100 k0 nl fl w 16 0 100 (by omega) (by omega)
 have h1 : ∀ k0 w, Yi 100 k0 100 16 w (pu .u32 (Jeq bs 16)) = k0 w (pu .u32 (QV bs 48)) := fun k0 w => Jr8 bs 100 k0 w 48 0 100 (by omega) (by omega)
 exact (h0 _ _).trans (h1 _ _)
def JhI : Jz
 | [.ro 5 nl fl b], [], k => bif Jl .u8 b && decide (b.length = 64) then k ⟨.ar 159 (pu .u32 (Qp (JD b))), [], []⟩ else none
 | _, _, _ => none
def JyD : Sig := { own := [], run := JhI }
theorem JBa : Jc tau Try.prog 115 JyD := JN Jn JhA Jo JyB JyC _ [] 0 [] JhI (JGb 100) fun xs es k res hr => by
 unfold JhI at hr
 split at hr
 · obtain ⟨hc, hr⟩ := Jv hr
   simp only [Bool.and_eq_true, decide_eq_true_eq] at hc
   refine ⟨rfl, 0, (JMo 100 _ _ _ _).trans ?_⟩
   rw [Qy hc.1, JvY _ (by simpa using hc.2)]
   exact hr
 · cases hr
def QN (g : Nat -> Int) (t : List Int) (i : Nat) : List Int := (List.range i).map g ++ t.drop i
theorem Wc (g : Nat -> Int) (t : List Int) : QN g t 0 = t := by simp [QN]
theorem WV (g : Nat -> Int) (t : List Int) : QN g t t.length = (List.range t.length).map g := by simp [QN]
theorem JaN (g : Nat -> Int) (t : List Int) (i : Nat) (h : i <= t.length) : (QN g t i).length = t.length := by simp [QN]; omega
theorem QM (g : Nat -> Int) (t : List Int) (i : Nat) (h : i < t.length) : (QN g t i).set i (g i) = QN g t (i + 1) := by
 rw [QN, List.set_append_right _ _ (by simp), List.drop_eq_getElem_cons h, List.length_map, List.length_range, Nat.sub_self, List.set_cons_zero]
 simp [QN, List.range_succ]
theorem Jgn (g : Nat -> Int) (t : List Int) (i : Nat) (h : i < t.length) : (QN g t i).getD i 0 = t.getD i 0 := by
 simp only [QN, List.getD_eq_getElem?_getD]
 rw [List.getElem?_append_right (by simp)]
 simp
def kks : List Int := [1116352408, 1899447441, 3049323471, 3921009573, 961987163, 1508970993, 2453635748, 2870763221, 3624381080, 310598401, 607225278, 1426881987, 1925078388, 2162078206, 2614888103, 3248222580, 3835390401, 4022224774, 264347078, 604807628, 770255983, 1249150122, 1555081692, 1996064986, 2554220882, 2821834349, 2952996808, 3210313671, 3336571891, 3584528711, 113926993, 338241895, 666307205, 773529912, 1294757372, 1396182291, 1695183700, 1986661051, 2177026350, 2456956037, 2730485921, 2820302411, 3259730800, 3345764771, 3516065817, 3600352804, 4094571909, 275423344, 430227734, 506948616, 659060556, 883997877, 958139571, 1322822218, 1537002063, 1747873779, 1955562222, 2024104815, 2227730452, 2361852424, 2428436474, 2756734187, 3204031479, 3329325298]
def iv : List Int := [1779033703, 3144134277, 1013904242, 2773480762, 1359893119, 2600822924, 528734635, 1541459225]
def xW (k w h e f g : Int) : Int := ww (ww (ww (ww (h + JM .xor .u32 (JM .xor .u32 (rr e 6) (rr e 11)) (rr e 25)) + JM .xor .u32 (JM .and .u32 e f) (JM .and .u32 (JM .xor .u32 (Int.ofNat (2 ^ IntKind.u32.bits - Nat.succ 0)) e) g)) + k) + w)
def yW (a b c : Int) : Int := ww (JM .xor .u32 (JM .xor .u32 (rr a 2) (rr a 13)) (rr a 22) + JM .xor .u32 (JM .xor .u32 (JM .and .u32 a b) (JM .and .u32 a c)) (JM .and .u32 b c))
def rnd (k w : Int) (t : List Int) : List Int :=
 [ww (xW k w (t.getD 7 0) (t.getD 4 0) (t.getD 5 0) (t.getD 6 0) + yW (t.getD 0 0) (t.getD 1 0) (t.getD 2 0)), t.getD 0 0, t.getD 1 0, t.getD 2 0,
  ww (t.getD 3 0 + xW k w (t.getD 7 0) (t.getD 4 0) (t.getD 5 0) (t.getD 6 0)), t.getD 4 0, t.getD 5 0, t.getD 6 0]
def Jch (W s : List Int) : Nat -> List Int
 | 0 => s
 | i + 1 => rnd (kks.getD i 0) (W.getD i 0) (Jch W s i)
theorem Yj (W s : List Int) (h : s.length = 8) : ∀ i, (Jch W s i).length = 8
 | 0 => h
 | i + 1 => rfl
def JlK (s bs : List Int) : List Int := (List.range 8).map fun i => ww ((Jch (Qp bs) s 64).getD i 0 + s.getD i 0)
theorem JjR (s bs : List Int) : (JlK s bs).length = 8 := by simp [JlK]
def XW (s b : List Int) : Nat -> List Int
 | 0 => s
 | n + 1 => JlK (XW s b n) ((b.drop (64 * n)).take 64)
theorem Xx (s b : List Int) (h : s.length = 8) : ∀ n, (XW s b n).length = 8
 | 0 => h
 | n + 1 => JjR _ _
def zs (m : Nat) : Nat := (120 - m % 64) % 64
def JvZ (n : Nat) : List Int := (List.range 8).map fun (i : Nat) => IntKind.u8.wrap (JV .u64 (IntKind.u64.wrap (IntKind.u64.wrap (n : Int) * 8)) (56 - 8 * (i : Int)))
def Q1 (bs : List Int) : List Int := (bs ++ [128] ++ List.replicate (zs (bs.length + 1)) 0) ++ JvZ bs.length
theorem JcY (bs : List Int) : (Q1 bs).length = 64 * ((Q1 bs).length / 64) := by
 have : (Q1 bs).length = bs.length + 1 + zs (bs.length + 1) + 8 := by simp [Q1, JvZ]; omega
 rw [this]; unfold zs; omega
def ZH (s : List Int) (i : Nat) : Int := IntKind.u8.wrap (JV .u32 (s.getD (i / 4) 0) (24 - 8 * ((i % 4 : Nat) : Int)))
def Jr9 (s : List Int) : List Int := (List.range 32).map (ZH s)
def Joz (bs : List Int) : List Int := Jr9 (XW iv (Q1 bs) ((Q1 bs).length / 64))
def JX (bs : List Int) : List Int := bif Nat.ble bs.length bs.length then Joz bs else []
theorem Jdp (bs : List Int) : JX bs = Joz bs := by
 have : Nat.ble bs.length bs.length = true := by rw [Nat.ble_eq]; exact Nat.le_refl _
 rw [JX, this]; rfl
theorem Qu (bs : List Int) : (JX bs).length = 32 := by simp [Jdp, Joz, Jr9]
theorem Jer (n : Nat) : (zi n).tmod 64 = ((n % 64 : Nat) : Int) := by
 show (n : Int).tmod 64 = _
 rw [Int.tmod_eq_emod_of_nonneg (by omega)]; omega
-- FN ref8.Hash
def Jes : Nat -> RS -> RS
 | 0, s => s
 | n + 1, s => Jes n (Qh 1 s)
def JaO : Nat -> RS -> List Int
 | 0, _ => []
 | n + 1, s => IntKind.u8.wrap (WJ 1 s) :: JaO n (Qh 1 s)
def Jet : Nat -> RT -> RT
 | 0, t => t
 | n + 1, t => Jet n (QT 1 t)
def hashS : RS -> RS := hid (Jes 32)
def hashV : RS -> List Int := hid (JaO 32)
def hashT : RT -> RT := hid (Jet 32)
def hashVT : RT -> List Int := hid fun t => JaO 32 t.view
theorem hashS_eq (s : RS) : hashS s = Jes 32 s := by rw [hashS, hid_eq]
theorem hashV_eq (s : RS) : hashV s = JaO 32 s := by rw [hashV, hid_eq]
theorem hashT_eq (t : RT) : hashT t = Jet 32 t := by rw [hashT, hid_eq]
theorem hashVT_eq (t : RT) : hashVT t = JaO 32 t.view := by rw [hashVT, hid_eq]
theorem JcZ : ∀ (n : Nat) (s : RS), (JaO n s).length = n
 | 0, _ => rfl
 | n + 1, s => by simp [JaO, JcZ n]
@[simp] theorem hashV_length (s : RS) : (hashV s).length = 32 := by rw [hashV_eq]; exact JcZ 32 s
theorem Jgo : ∀ (n : Nat) (t : RT), (Jet n t).view = Jes n t.view
 | 0, _ => rfl
 | n + 1, t => by simp only [Jet, Jes, Jgo n, YQ]
@[simp] theorem hashT_view (t : RT) : (hashT t).view = hashS t.view := by rw [hashT_eq, hashS_eq, Jgo]
@[simp] theorem hashVT_val (t : RT) : hashVT t = hashV t.view := by rw [hashVT_eq, hashV_eq]
theorem JoA : ∀ (n : Nat) {t : RT}, okT t = true -> okT (Jet n t) = true
 | 0, _, h => h
 | n + 1, t, h => JoA n (ZY h 1)
@[simp] theorem Jsa {t : RT} (h : okT t = true) : okT (hashT t) = true := by rw [hashT_eq]; exact JoA 32 h
theorem JhJ : ∀ (n : Nat) {s : RS}, byB s.b = true -> byB (Jes n s).b = true
 | 0, _, h => h
 | n + 1, s, h => JhJ n (YP h 1)
theorem JyE (f : Nat) (k0 : Bool -> Bool -> List PV -> Int -> Int -> List PV -> List PV -> OR) (z fl : Bool) (h0 : List PV) : ∀ (d i n : Nat) (t : RT) (L : List Int), i + d = 32 -> d < n -> okT t = true -> L.length = 32 ->
  Gx f k0 n (i : Int) z fl t.B t.P t.e h0 (pu .u8 L) = k0 z fl (Jet d t).B (Jet d t).P (Jet d t).e h0 (pu .u8 (L.take i ++ JaO d t.view))
 | 0, i, n + 1, t, L, h, hn, hk, hL => by
   obtain rfl : i = 32 := by omega
   simp only [Gx, JaJ, Jet, JaO, List.append_nil]
   rw [List.take_of_length_le (by omega)]
   exact Jd (by decide)
 | d + 1, i, n + 1, t, L, h, hn, hk, hL => by
   have g1 : ((i : Int)).toNat = i := by omega
   have w1 : IntKind.i64.wrap ((i : Int) + 1) = ((i + 1 : Nat) : Int) := by rw [wrap_i64 (by omega) (by omega)]; omega
   simp only [Gx, JaJ, g1, w1, Xp]
   refine (Ja (by simp; omega)).trans ((Ja hk).trans ((Ja (by simp; omega)).trans ?_))
   have := JyE f k0 z fl h0 d (i + 1) n (QT 1 t) (L.set i (IntKind.u8.wrap (Qj 1 t))) (by omega) (by omega) (ZY hk 1) (by simpa using hL)
   rw [Xl]
   refine this.trans ?_
   have hset : (L.set i (IntKind.u8.wrap (Qj 1 t))).take (i + 1) = L.take i ++ [IntKind.u8.wrap (Qj 1 t)] := by
    rw [List.take_add_one, List.take_set_of_le (Nat.le_refl i), List.getElem?_set_self (by omega)]; rfl
   rw [hset, YQ, Jdo]
   simp only [Jet, JaO, List.append_assoc, List.cons_append, List.nil_append]
def JlL : Jz
 | [.ptr 0 []], [.box false 135 (.st 135 [.ro 5 z f B, .sc (.int .i64 P), .sc (.int .i64 e)])], k =>
  bif okT ⟨B, P, e⟩ then k ⟨.ar 37 (pu .u8 (hashVT ⟨B, P, e⟩)), [rfP z f (hashT ⟨B, P, e⟩)], []⟩ else none
 | _, _, _ => none
def JGe : Sig := { own := [], run := JlL }
theorem JGf : Jc tau Try.prog 45 JGe := Jc.mk' fun xs es k res hl hr => by
 change JlL xs es k = some res at hr
 unfold JlL at hr
 split at hr
 · rename_i z f B P e
   obtain ⟨hc, hr⟩ := Jv hr
   have hg : g45 40 z f B P e k = some res := by
    have h := JyE 40 (fun x0_0 x1_0 x2_0 x3_0 x4_0 x5_0 x6_0 => k (Res.mk (.ar 37 x6_0) [.box false 135 (.st 135 [.ro 5 x0_0 x1_0 x2_0, .sc (.int .i64 x3_0), .sc (.int .i64 x4_0)])] [])) z f (pu .u8 (List.replicate 32 0)) 32 0 40 ⟨B, P, e⟩ (List.replicate 32 0) (by omega) (by omega) hc (by simp)
    rw [List.take_zero, List.nil_append] at h
    rw [hashVT_eq, hashT_eq] at hr
    exact Eq.trans h hr
   exact J2 Jn JrV Jo JFU JFV (JvO (Jep 40)) [.ro] 1 0 (JMg 40) hl rfl ((e45 40 z f B P e k).trans hg)
 · cases hr
-- FN wire.read
def fS : Nat -> RS -> RS
 | 0, s => s
 | 1, s => Jb 1 s
 | n + 2, s => Jb 8 (fS (n + 1) s)
def Z4 (c : Int) (s : RS) : RS := ⟨s.b, bif s.e == 0 then c else s.e⟩
def txR : Nat -> RS -> RS
 | 0, s => s
 | n + 1, s => txR n (Qc s)
def JBb (s : RS) : Int := JA 1 (fS 13 s)
def JGg (s : RS) : Nat := bif decide (JBb s > 4) then 0 else (JBb s).toNat
def JGh (s : RS) : RS := bif decide (JBb s > 4) then Z4 4 (Jb 1 (fS 13 s)) else Jb 1 (fS 13 s)
def JBc : RS -> List Int := hid fun s => hashV (txR (JGg s) (JGh s))
theorem Jv0 (s : RS) : JBc s = hashV (txR (JGg s) (JGh s)) := by rw [JBc, hid_eq]
@[simp] theorem JyF (s : RS) : (JBc s).length = 32 := by rw [Jv0]; exact hashV_length _
theorem Qi {s : RS} (h : byB s.b = true) (n : Nat) : byB (Jb n s).b = true := by rw [XT]; exact YP h n
theorem JoB {s : RS} (h : byB s.b = true) : byB (Qc s).b = true := by rw [Jdn]; exact YP (YP h 2) _
theorem Z5 : ∀ l : List PV, (JU l).length = l.length
 | [] => rfl
 | p :: ps => by simp [JU, Z5 ps]
theorem Jgp {s : RS} (h : byB s.b = true) : (JS s).size <= 65535 := by
 rw [Jhq]
 show (JU _).length <= _
 rw [Z5]
 have h1 := WU (WJ 2 s).toNat (Qh 2 s)
 have h2 := XU h (n := 2) (Nat.le_refl 2)
 omega
theorem Yk (t : ByteArray) : (Jj t).length = t.size := by simp only [Jj, List.length_map, Array.length_toList]; rfl
-- FN wire.check | wire.key
def Xy (x m : Int) : Bool := decide (x >= 0) && decide (x <= m)
def JMp (fr to wh wn cd cu ve co ad au su er : Int) : Bool := Xy fr 2 && (Xy to 2 && (!(fr == to) && (Xy wh 2 && (Xy wn 99 && (Xy cd 2 && (Xy cu 7 && (Xy ad 2 && (Xy au 7 && (Xy ve 1073741824 && (Xy co 1073741824 && (Xy su 1073741824 && Xy er 255)))))))))))
def JMq (kd fr to wh wn cd cu ve co ad au su er : Int) : Int := bif Xy (IntKind.i64.wrap (kd - 1)) 4 then (bif JMp fr to wh wn cd cu ve co ad au su er then 0 else 1) else 3
structure C13 where
 (kd fr to wh wn cd cu ve co ad au su er : Int)
def chk : C13 -> Int := hid fun c => JMq c.kd c.fr c.to c.wh c.wn c.cd c.cu c.ve c.co c.ad c.au c.su c.er
def JjS (l : List PV) (d : Int) : PV := bif Xy d 2 then l.getD d.toNat .top else .ro 5 true true []
structure K3 where
 (l : List PV) (d : Int)
def JhK : K3 -> List PV := hid fun c => (JjS c.l c.d).els
theorem JoC (c : K3) : JhK c = (JjS c.l c.d).els := by rw [JhK, hid_eq]
def JGi : Fns := F0
theorem Jv1 : Jq tau Try.prog JGi := Js
def Jsb : An := (.seq .leaf (.seq (.seq .leaf (.cond .leaf .leaf)) (.seq (.seq .leaf (.seq .leaf (.cond .leaf .leaf))) (.seq .leaf .leaf))))
def JGj (f : Nat) (n : Int) (k : KR) : OR := bif decide (n < 0) then none else bif decide (IntKind.i64.wrap (n - IntKind.i64.wrap (zi 0 - zi 0)) > 0) then bif decide (0 <= IntKind.i64.wrap (n - IntKind.i64.wrap (zi 0 - zi 0))) && Je (IntKind.i64.wrap (n - IntKind.i64.wrap (zi 0 - zi 0))).toNat 1 && true then k (Res.mk (.ow 5 16 [] 0 0 none) [] [.vec false 5 (IntKind.i64.wrap (n - IntKind.i64.wrap (zi 0 - zi 0)) == 0) (List.replicate (IntKind.i64.wrap (n - IntKind.i64.wrap (zi 0 - zi 0))).toNat (.sc (.int .u8 0)))]) else none else k (Res.mk (.ro 5 true true []) [] [])
theorem JMr (f : Nat) (n : Int) (k : KR) : JJ tau JGi Try.f114 (Try.f114.body.get!) Jsb [] 0 [.ro 5 true true [], .sc (.int .i64 n)] [] k = JGj f n k := by kernel_rfl
theorem JGk (f : Nat) : ∀ q ∈ Jf (Try.f114.body.get!) Jsb, q.Ok tau Try.prog 0 := Jw (by kernel_rfl)
theorem JyG : Try.prog.funcs[114]? = some Try.f114 := by kernel_rfl
theorem JyH : Try.f114.body = some (Try.f114.body.get!) := by kernel_rfl
theorem JGl : Enters Try.prog 114 := enters_of JyG (by kernel_rfl) JyH
def JlM : Jz
 | [.ro 5 true true [], .sc (.int .i64 n)], [], k => JGj 0 n k
 | _, _, _ => none
def JGm : Sig := { own := [], run := JlM }
theorem JGn : Jc tau Try.prog 114 JGm := JN Jn Jv1 Jo JyG JyH Jsb [] 0 [] JlM (JGk 0) fun xs es k res hr => by
 unfold JlM at hr
 split at hr
 · exact ⟨rfl, 0, (JMr 0 _  _).trans hr⟩
 · cases hr
def N79 : Nat := 36
def F79 : Fns := Jt 114 JGm (F0)
theorem JlN : Jq tau Try.prog F79 := (Js).add JGn JGl
def JoD : Code := Qd (Try.f79.body.get!) [1, 1, 0, 1, 0, 0]
def Jeu : Nm := [(0, .any), (3, .any), (9, .any), (10, .any), (11, .any)]
def JlO : Nm := [(0, .any), (3, .any)]
def Jsc : An := (.seq .leaf (.seq (.cond .leaf .leaf) (.seq (.block none (.seq .leaf (.seq .leaf (.seq .leaf (.cond .leaf .leaf))))) .leaf)))
def Jgq : Code := Qd (Try.f79.body.get!) [1, 1, 1, 1, 0, 1, 0, 0]
def Ze : Nm := [(6, .own), (25, .any), (26, .any), (27, .any)]
def Z6 : Nm := [(6, .any)]
def JjT : An := (.seq .leaf (.seq (.cond .leaf .leaf) (.seq (.block none (.seq .leaf .leaf)) .leaf)))
def Jv2 (r0 : Qr) (r1 : Qr) : An := (.seq .leaf (.seq .leaf (.seq (.seq .leaf (.block none (.sum Jeu N79 r0))) (.seq .leaf (.seq (.seq .leaf (.block none (.sum Ze N79 r1))) (.seq .leaf .leaf))))))
def JaP (f : Nat) (rc : Bool -> Bool -> List PV -> Int -> Bool -> Bool -> List PV -> Int -> Int -> OR) (k0 : Bool -> Bool -> List PV -> Int -> OR) (v0 v1 : Bool) (v2 : List PV) (v3 : Int) (v4 v5 : Bool) (v6 : List PV) (v7 v8 : Int) : OR := bif decide (v8 < v7) then bif decide (0 <= v8) && decide (v8 < zi v6.length) && PV.isRo 5 (v6.getD v8.toNat PV.top) && true then bif decide (IntKind.i64.wrap (v3 + zi (v6.getD v8.toNat PV.top).els.length) < 0) then none else rc v0 v1 v2 (IntKind.i64.wrap (v3 + zi (v6.getD v8.toNat PV.top).els.length)) v4 v5 v6 v7 (IntKind.i64.wrap (v8 + 1)) else none else k0 v0 v1 v2 v3
def Gy (f : Nat) (k0 : Bool -> Bool -> List PV -> Int -> OR) : Nat -> Bool -> Bool -> List PV -> Int -> Bool -> Bool -> List PV -> Int -> Int -> OR
 | 0, _, _, _, _, _, _, _, _, _ => none
 | n + 1, v0, v1, v2, v3, v4, v5, v6, v7, v8 => JaP f (Gy f k0 n) k0 v0 v1 v2 v3 v4 v5 v6 v7 v8
def JaQ (k : Kont) := fun x0 x1 x2 x3 => k (Ex.exit 0) (Ji JlO N79 [.ro 29 x0 x1 x2, .sc (.int .i64 x3)] [])
def JlP (f : Nat) (k : Kont) (n : Nat) (v0 v1 : Bool) (v2 : List PV) (v3 : Int) (v4 v5 : Bool) (v6 : List PV) (v7 v8 : Int) : OR := Jy tau 0 Jeu (fun s k => ev tau F79 0 0 JoD (Jsc ) s k) n (Ji Jeu N79 [.ro 29 v0 v1 v2, .sc (.int .i64 v3), .ro 29 v4 v5 v6, .sc (.int .i64 v7), .sc (.int .i64 v8)] []) (JG tau 0 JlO k)
theorem Jv3 (f : Nat) (k : Kont) (n : Nat) (v0 v1 : Bool) (v2 : List PV) (v3 : Int) (v4 v5 : Bool) (v6 : List PV) (v7 v8 : Int) : JlP f k (n + 1) v0 v1 v2 v3 v4 v5 v6 v7 v8 = JaP f (JlP f k n) (JaQ k) v0 v1 v2 v3 v4 v5 v6 v7 v8 := by kernel_rfl
theorem JoE (f : Nat) (k : Kont) : ∀ (n : Nat) (v0 v1 : Bool) (v2 : List PV) (v3 : Int) (v4 v5 : Bool) (v6 : List PV) (v7 v8 : Int), JlP f k n v0 v1 v2 v3 v4 v5 v6 v7 v8 = Gy f (JaQ k) n v0 v1 v2 v3 v4 v5 v6 v7 v8 | 0, _, _, _, _, _, _, _, _, _ => rfl | n + 1, v0, v1, v2, v3, v4, v5, v6, v7, v8 => (Jv3 f k n v0 v1 v2 v3 v4 v5 v6 v7 v8).trans (congrArg (fun r => JaP f r (JaQ k) v0 v1 v2 v3 v4 v5 v6 v7 v8) (by funext v0 v1 v2 v3 v4 v5 v6 v7 v8; exact JoE f k n v0 v1 v2 v3 v4 v5 v6 v7 v8))
def Jev (f : Nat) : List PV -> List (Nat × Ent) -> Kont -> OR
 | [.ro 29 v0 v1 v2, .sc (.int .i64 v3), .ro 29 v4 v5 v6, .sc (.int .i64 v7),
 .sc (.int .i64 v8)], [], k => Gy f (JaQ k) f v0 v1 v2 v3 v4 v5 v6 v7 v8
 | _, _, _ => none
theorem JBd (f : Nat) : Jf JoD Jsc = [] := by kernel_rfl
theorem JBe (f : Nat) : (Item.l JoD Jeu N79 (Jev f)).Ok tau Try.prog 0 := Ju Jn JlN Jo (x := Jsc) (nm2 := JlO) (Jk _ _ (by rw [JBd f]; intro q hq; cases hq)) fun vs hp k res hr => by
 unfold Jev at hr
 split at hr
 · exact ⟨f, 0, (JoE f _ f _ _ _ _ _ _ _ _ _ ).trans hr⟩
 · cases hr
def JaR (f : Nat) (rc : Nat -> Bool -> Bool -> List PV -> Int -> Int -> Bool -> List PV -> OR) (k0 : Nat -> Bool -> List PV -> OR) (v0 : Nat) (v1 v2 : Bool) (v3 : List PV) (v4 v5 : Int) (v6 : Bool) (v7 : List PV) : OR := bif decide (v5 < v4) then bif decide (0 <= v5) && decide (v5 < zi v3.length) && PV.isRo 5 (v3.getD v5.toNat PV.top) && true then bif Je (v0 + (v3.getD v5.toNat PV.top).els.length) 1 && true then rc (v0 + (v3.getD v5.toNat PV.top).els.length) v1 v2 v3 v4 (IntKind.i64.wrap (v5 + 1)) (v6 && (v3.getD v5.toNat PV.top).els.isEmpty) (List.take v0 v7 ++ (v3.getD v5.toNat PV.top).els) else none else none else k0 v0 v6 v7
def Yv (f : Nat) (k0 : Nat -> Bool -> List PV -> OR) : Nat -> Nat -> Bool -> Bool -> List PV -> Int -> Int -> Bool -> List PV -> OR
 | 0, _, _, _, _, _, _, _, _ => none
 | n + 1, v0, v1, v2, v3, v4, v5, v6, v7 => JaR f (Yv f k0 n) k0 v0 v1 v2 v3 v4 v5 v6 v7
theorem Jv4 (f : Nat) (k : Kont) (n v0 : Nat) (v1 v2 : Bool) (v3 : List PV) (v4 v5 : Int) (v6 : Bool) (v7 : List PV) : Jy tau 0 Ze (fun s k => ev tau F79 0 0 Jgq (JjT ) s k) (n + 1) (Ji Ze N79 [.ow 5 592 [] 0 v0 none, .ro 29 v1 v2 v3, .sc (.int .i64 v4), .sc (.int .i64 v5)] [(592, .vec false 5 v6 v7)]) (JG tau 0 Z6 k) = JaR f (fun v0 v1 v2 v3 v4 v5 v6 v7 => Jy tau 0 Ze (fun s k => ev tau F79 0 0 Jgq (JjT ) s k) n (Ji Ze N79 [.ow 5 592 [] 0 v0 none, .ro 29 v1 v2 v3, .sc (.int .i64 v4), .sc (.int .i64 v5)] [(592, .vec false 5 v6 v7)]) (JG tau 0 Z6 k)) (fun x0 x1 x2 => k (Ex.exit 2) (Ji Z6 N79 [.ow 5 592 [] 0 x0 none] [(592, .vec false 5 x1 x2)])) v0 v1 v2 v3 v4 v5 v6 v7 := by kernel_rfl
theorem JoF (f : Nat) (k : Kont) : ∀ (n v0 : Nat) (v1 v2 : Bool) (v3 : List PV) (v4 v5 : Int) (v6 : Bool) (v7 : List PV), Jy tau 0 Ze (fun s k => ev tau F79 0 0 Jgq (JjT ) s k) n (Ji Ze N79 [.ow 5 592 [] 0 v0 none, .ro 29 v1 v2 v3, .sc (.int .i64 v4), .sc (.int .i64 v5)] [(592, .vec false 5 v6 v7)]) (JG tau 0 Z6 k) = Yv f (fun x0 x1 x2 => k (Ex.exit 2) (Ji Z6 N79 [.ow 5 592 [] 0 x0 none] [(592, .vec false 5 x1 x2)])) n v0 v1 v2 v3 v4 v5 v6 v7 | 0, _, _, _, _, _, _, _, _ => rfl | n + 1, v0, v1, v2, v3, v4, v5, v6, v7 => (Jv4 f k n v0 v1 v2 v3 v4 v5 v6 v7).trans (congrArg (fun r => JaR f r (fun x0 x1 x2 => k (Ex.exit 2) (Ji Z6 N79 [.ow 5 592 [] 0 x0 none] [(592, .vec false 5 x1 x2)])) v0 v1 v2 v3 v4 v5 v6 v7) (by funext v0 v1 v2 v3 v4 v5 v6 v7; exact JoF f k n v0 v1 v2 v3 v4 v5 v6 v7))
def Jew (f : Nat) : List PV -> List (Nat × Ent) -> Kont -> OR
 | [.ow 5 592 [] 0 v0 none, .ro 29 v1 v2 v3, .sc (.int .i64 v4),
 PV.sc
  (Value.int IntKind.i64
   v5)], [(592, .vec false 5 v6 v7)], k => Yv f (fun x0 x1 x2 => k (Ex.exit 2) (Ji Z6 N79 [.ow 5 592 [] 0 x0 none] [(592, .vec false 5 x1 x2)])) f v0 v1 v2 v3 v4 v5 v6 v7
 | _, _, _ => none
theorem JBf (f : Nat) : Jf Jgq JjT = [] := by kernel_rfl
theorem JBg (f : Nat) : (Item.l Jgq Ze N79 (Jew f)).Ok tau Try.prog 0 := Ju Jn JlN Jo (x := JjT) (nm2 := Z6) (Jk _ _ (by rw [JBf f]; intro q hq; cases hq)) fun vs hp k res hr => by
 unfold Jew at hr
 split at hr
 · exact ⟨f, 0, (JoF f _ f _ _ _ _ _ _ _ _ ).trans hr⟩
 · cases hr
def g79 (f : Nat) (y0 y1 : Bool) (slices : List PV) (k : KR) : OR := Gy f (fun x0_0 x1_0 x2_0 x3_0 => bif decide (x3_0 < 0) then none else bif decide (IntKind.i64.wrap (x3_0 - IntKind.i64.wrap (zi 0 - zi 0)) > 0) then bif decide (0 <= IntKind.i64.wrap (x3_0 - IntKind.i64.wrap (zi 0 - zi 0))) && Je (IntKind.i64.wrap (x3_0 - IntKind.i64.wrap (zi 0 - zi 0))).toNat 1 && true then Yv f (fun x0_1 x1_1 x2_1 => k (Res.mk (.ow 5 16 [] 0 x0_1 none) [] [.vec false 5 x1_1 x2_1])) f (0) x0_0 x1_0 x2_0 (zi x2_0.length) (0) (IntKind.i64.wrap (x3_0 - IntKind.i64.wrap (zi 0 - zi 0)) == 0) (List.replicate (IntKind.i64.wrap (x3_0 - IntKind.i64.wrap (zi 0 - zi 0))).toNat (.sc (.int .u8 0))) else none else Yv f (fun x0_2 x1_2 x2_2 => k (Res.mk (.ow 5 16 [] 0 x0_2 none) [] [.vec false 5 x1_2 x2_2])) f (0) x0_0 x1_0 x2_0 (zi x2_0.length) (0) true ([])) f y0 y1 slices (0) y0 y1 slices (zi slices.length) (0)
theorem e79 (f : Nat) (y0 y1 : Bool) (slices : List PV) (k : KR) : JJ tau F79 Try.f79 (Try.f79.body.get!) (Jv2 (Jev f) (Jew f)) [] 0 [.ro 29 y0 y1 slices] [] k = g79 f y0 y1 slices k := by kernel_rfl
theorem JMs (f : Nat) : Jf (Try.f79.body.get!) (Jv2 (Jev f) (Jew f)) = [.l JoD Jeu N79 (Jev f), .l Jgq Ze N79 (Jew f)] := by kernel_rfl
theorem JMt (f : Nat) : ∀ q ∈ Jf (Try.f79.body.get!) (Jv2 (Jev f) (Jew f)), q.Ok tau Try.prog 0 := by rw [JMs f]; exact JL (JBe f) (JL (JBg f) (fun _ h => nomatch h))
theorem JGo : Try.prog.funcs[79]? = some Try.f79 := by kernel_rfl
theorem JGp : Try.f79.body = some (Try.f79.body.get!) := by kernel_rfl
theorem JBh : Enters Try.prog 79 := enters_of JGo (by kernel_rfl) JGp
end
end Go.Proofs.Ythpmachmnoljeaa.Rx
