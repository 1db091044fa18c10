/- What the functions of this law compute, and their plain laws. Conditions: none. -/
import Derived.Test.YtcklhipdldpkhaaProg
import Derived.Test.YtcklhipdldpkhaaWaveletSamesZ4
namespace Go.Proofs.Ytcklhipdldpkhaa.Rx
noncomputable section
open Go
set_option linter.unusedVariables false
set_option linter.unusedSimpArgs false
set_option maxRecDepth 100000
set_option maxHeartbeats 0
def tys : List TypeId := [1, 2, 3, 4, 5, 9, 12, 21, 22, 23, 24, 25, 26, 28, 29, 30, 31, 32, 33, 34, 35, 36, 37, 38, 39, 40, 41, 42, 43, 44, 45, 46, 47, 48, 49, 50, 51, 52, 53, 54, 55, 56, 57, 58, 59, 60, 62, 64, 65, 66, 67, 68, 69, 70, 71, 72, 73, 74, 75, 76, 77, 78, 79, 81, 82, 83, 85, 86, 87, 88, 89, 90, 91, 92, 93, 94, 95, 96, 97, 98, 99, 100, 101, 102, 103, 104, 105, 106, 107, 109, 110, 111, 112, 113, 114, 115, 116, 117, 118, 119, 120, 121, 122, 123, 124, 125, 126, 128, 129, 130, 131, 132, 133, 134, 135, 136, 137, 138, 139, 140, 141, 142, 143, 144, 145, 146, 147, 148, 149, 150, 151, 152, 153, 155, 156, 157, 158, 160, 161, 162, 163, 164, 165, 166, 167, 168, 170, 172, 173, 174, 176, 177, 184, 185, 186, 187, 188, 189, 190, 191, 192, 193, 195, 196, 197, 198, 200, 202, 203, 204, 205, 206, 207, 208, 209, 212, 213]
def JyA : TypeId -> Option PV := fun t =>
 bif t == 1 then some (.sc .nilFunc) else
 bif t == 2 then some (.sc (.int .i64 0)) else
 bif t == 3 then some (.sc (.int .i64 0)) else
 bif t == 4 then some (.sc (.bool false)) else
 bif t == 5 then some (.sc (.int .u8 0)) else
 bif t == 9 then some (.sc (.string ByteArray.empty)) else
 bif t == 12 then some (.sc (.int .u64 0)) else
 bif t == 21 then some (.sc (.int .i32 0)) else
 bif t == 22 then some (.ro 106 true true []) else
 bif t == 23 then some (.sc .nilFunc) else
 bif t == 24 then some (.sc .nilFunc) else
 bif t == 25 then some (.ro 93 true true []) else
 bif t == 26 then some (.ro 41 true true []) else
 bif t == 28 then some (.sc .nilFunc) else
 bif t == 29 then some (.ro 5 true true []) else
 bif t == 30 then some (.st 30 (List.replicate 3 (.ro 5 true true []))) else
 bif t == 31 then some (.st 31 (List.replicate 3 (.ro 5 true true []))) else
 bif t == 32 then some (.sc .nilFunc) else
 bif t == 33 then some (.st 33 [.sc (.int .i64 0), .sc (.int .i64 0)]) else
 bif t == 34 then some (.st 34 [.sc (.int .i64 0), .sc (.int .i64 0)]) else
 bif t == 35 then some (.ro 45 true true []) else
 bif t == 36 then some (.ar 36 (List.replicate 32 (.sc (.int .u8 0)))) else
 bif t == 37 then some (.ar 37 (List.replicate 32 (.sc (.int .u8 0)))) else
 bif t == 38 then some (.st 38 [.st 34 [.sc (.int .i64 0), .sc (.int .i64 0)], .sc (.string ByteArray.empty), .ro 45 true true [], .sc (.int .i64 0), .ar 37 (List.replicate 32 (.sc (.int .u8 0)))]) else
 bif t == 39 then some (.st 39 [.st 34 [.sc (.int .i64 0), .sc (.int .i64 0)], .sc (.string ByteArray.empty), .ro 45 true true [], .sc (.int .i64 0), .ar 37 (List.replicate 32 (.sc (.int .u8 0)))]) else
 bif t == 40 then some (.sc .nilFunc) else
 bif t == 41 then some (.st 41 [.st 34 [.sc (.int .i64 0), .sc (.int .i64 0)], .sc (.string ByteArray.empty), .ro 45 true true [], .sc (.int .i64 0), .ar 37 (List.replicate 32 (.sc (.int .u8 0)))]) else
 bif t == 42 then some (.sc .nilFunc) else
 bif t == 43 then some (.sc .nilFunc) else
 bif t == 44 then some (.st 44 [.sc (.int .i64 0), .sc (.int .i64 0)]) else
 bif t == 45 then some (.st 45 [.sc (.int .i64 0), .sc (.int .i64 0)]) else
 bif t == 46 then some (.sc .nilFunc) else
 bif t == 47 then some (.ro 29 true true []) else
 bif t == 48 then some (.sc .nilFunc) else
 bif t == 49 then some (.sc .nilFunc) else
 bif t == 50 then some (.sc .nilFunc) else
 bif t == 51 then some (.sc .nilFunc) else
 bif t == 52 then some (.sc .nilFunc) else
 bif t == 53 then some (.st 53 [.sc (.int .i64 0), .sc (.int .i64 0), .sc (.int .i64 0), .st 34 [.sc (.int .i64 0), .sc (.int .i64 0)], .st 45 [.sc (.int .i64 0), .sc (.int .i64 0)], .sc (.int .i64 0), .sc (.int .i64 0), .st 45 [.sc (.int .i64 0), .sc (.int .i64 0)], .sc (.int .i64 0), .sc (.int .i64 0), .ro 29 true true []]) else
 bif t == 54 then some (.st 54 [.sc (.int .i64 0), .sc (.int .i64 0), .sc (.int .i64 0), .st 34 [.sc (.int .i64 0), .sc (.int .i64 0)], .st 45 [.sc (.int .i64 0), .sc (.int .i64 0)], .sc (.int .i64 0), .sc (.int .i64 0), .st 45 [.sc (.int .i64 0), .sc (.int .i64 0)], .sc (.int .i64 0), .sc (.int .i64 0), .ro 29 true true []]) else
 bif t == 55 then some (.ro 3 true true []) else
 bif t == 56 then some (.sc .nilFunc) else
 bif t == 57 then some (.sc .nilFunc) else
 bif t == 58 then some (.sc .nilFunc) else
 bif t == 59 then some (.sc .nilFunc) else
 bif t == 60 then some (.sc (.int .i64 0)) else
 bif t == 62 then some (.sc .nilFunc) else
 bif t == 64 then some (.sc .nilFunc) else
 bif t == 65 then some (.sc .nilFunc) else
 bif t == 66 then some (.sc .nilFunc) else
 bif t == 67 then some (.sc .nilFunc) else
 bif t == 68 then some (.sc .nilFunc) else
 bif t == 69 then some (.sc .nilFunc) else
 bif t == 70 then some (.ro 99 true true []) else
 bif t == 71 then some (.ro 99 true true []) else
 bif t == 72 then some (.st 72 [.st 45 [.sc (.int .i64 0), .sc (.int .i64 0)], .sc (.int .i64 0), .sc (.int .i64 0), .ar 37 (List.replicate 32 (.sc (.int .u8 0))), .sc (.int .i64 0), .ro 99 true true [], .st 45 [.sc (.int .i64 0), .sc (.int .i64 0)]]) else
 bif t == 73 then some (.st 73 [.st 45 [.sc (.int .i64 0), .sc (.int .i64 0)], .sc (.int .i64 0), .sc (.int .i64 0), .ar 37 (List.replicate 32 (.sc (.int .u8 0))), .sc (.int .i64 0), .ro 99 true true [], .st 45 [.sc (.int .i64 0), .sc (.int .i64 0)]]) else
 bif t == 74 then some (.sc .nilFunc) else
 bif t == 75 then some (.sc .nilFunc) else
 bif t == 76 then some (.st 76 [.ro 5 true true [], .ar 37 (List.replicate 32 (.sc (.int .u8 0)))]) else
 bif t == 77 then some (.st 77 [.ro 5 true true [], .ar 37 (List.replicate 32 (.sc (.int .u8 0)))]) else
 bif t == 78 then some (.sc .nilFunc) else
 bif t == 79 then some (.sc .nilFunc) else
 bif t == 81 then some (.sc .nilFunc) else
 bif t == 82 then some (.sc .nilFunc) else
 bif t == 83 then some (.ro 31 true true []) else
 bif t == 85 then some (.sc .nilFunc) else
 bif t == 86 then some (.sc .nilFunc) else
 bif t == 87 then some (.sc .nilFunc) else
 bif t == 88 then some (.sc .nilFunc) else
 bif t == 89 then some (.sc .nilFunc) else
 bif t == 90 then some (.sc .nilFunc) else
 bif t == 91 then some (.sc .nilFunc) else
 bif t == 92 then some (.st 92 [.st 77 [.ro 5 true true [], .ar 37 (List.replicate 32 (.sc (.int .u8 0)))], .sc (.int .i64 0), .ro 99 true true [], .ar 37 (List.replicate 32 (.sc (.int .u8 0))), .ar 37 (List.replicate 32 (.sc (.int .u8 0)))]) else
 bif t == 93 then some (.st 93 [.st 77 [.ro 5 true true [], .ar 37 (List.replicate 32 (.sc (.int .u8 0)))], .sc (.int .i64 0), .ro 99 true true [], .ar 37 (List.replicate 32 (.sc (.int .u8 0))), .ar 37 (List.replicate 32 (.sc (.int .u8 0)))]) else
 bif t == 94 then some (.sc .nilFunc) else
 bif t == 95 then some (.sc .nilFunc) else
 bif t == 96 then some (.sc .nilFunc) else
 bif t == 97 then some (.sc .nilFunc) else
 bif t == 98 then some (.st 98 [.sc (.int .i64 0), .sc (.int .i64 0), .sc (.string ByteArray.empty)]) else
 bif t == 99 then some (.st 99 [.sc (.int .i64 0), .sc (.int .i64 0), .sc (.string ByteArray.empty)]) else
 bif t == 100 then some (.sc .nilFunc) else
 bif t == 101 then some (.sc .nilFunc) else
 bif t == 102 then some (.sc .nilFunc) else
 bif t == 103 then some (.sc .nilFunc) else
 bif t == 104 then some (.sc .nilFunc) else
 bif t == 105 then some (.st 105 [.sc (.int .i64 0), .sc (.int .i64 0), .sc (.int .i64 0), .ro 3 true true []]) else
 bif t == 106 then some (.st 106 [.sc (.int .i64 0), .sc (.int .i64 0), .sc (.int .i64 0), .ro 3 true true []]) else
 bif t == 107 then some (.sc .nilFunc) else
 bif t == 109 then some (.sc .nilFunc) else
 bif t == 110 then some (.sc .nilFunc) else
 bif t == 111 then some (.sc (.int .u32 0)) else
 bif t == 112 then some (.ar 112 (List.replicate 8 (.sc (.int .u32 0)))) else
 bif t == 113 then some (.ar 113 (List.replicate 8 (.sc (.int .u32 0)))) else
 bif t == 114 then some (.sc .nilFunc) else
 bif t == 115 then some (.sc .nilFunc) else
 bif t == 116 then some (.sc .nilFunc) else
 bif t == 117 then some (.sc .nilFunc) else
 bif t == 118 then some (.ar 118 (List.replicate 64 (.sc (.int .u32 0)))) else
 bif t == 119 then some (.sc .nilFunc) else
 bif t == 120 then some (.sc (.int .u64 0)) else
 bif t == 121 then some (.sc (.int .u64 0)) else
 bif t == 122 then some (.sc .nilFunc) else
 bif t == 123 then some (.sc .nilFunc) else
 bif t == 124 then some (.sc .nilFunc) else
 bif t == 125 then some (.sc (.pointer none)) else
 bif t == 126 then some (.sc .nilFunc) else
 bif t == 128 then some (.sc .nilFunc) else
 bif t == 129 then some (.sc .nilFunc) else
 bif t == 130 then some (.sc .nilFunc) else
 bif t == 131 then some (.sc .nilFunc) else
 bif t == 132 then some (.sc .nilFunc) else
 bif t == 133 then some (.sc (.pointer none)) else
 bif t == 134 then some (.sc .nilFunc) else
 bif t == 135 then some (.sc .nilFunc) else
 bif t == 136 then some (.sc .nilFunc) else
 bif t == 137 then some (.st 137 [.ro 5 true true [], .sc (.int .i64 0), .sc (.int .i64 0)]) else
 bif t == 138 then some (.st 138 [.ro 5 true true [], .sc (.int .i64 0), .sc (.int .i64 0)]) else
 bif t == 139 then some (.sc .nilFunc) else
 bif t == 140 then some (.sc .nilFunc) else
 bif t == 141 then some (.sc .nilFunc) else
 bif t == 142 then some (.sc .nilFunc) else
 bif t == 143 then some (.sc .nilFunc) else
 bif t == 144 then some (.sc .nilFunc) else
 bif t == 145 then some (.ro 148 true true []) else
 bif t == 146 then some (.sc .nilFunc) else
 bif t == 147 then some (.sc (.pointer none)) else
 bif t == 148 then some (.sc (.pointer none)) else
 bif t == 149 then some (.sc .nilFunc) else
 bif t == 150 then some (.sc .nilFunc) else
 bif t == 151 then some (.sc .nilFunc) else
 bif t == 152 then some (.sc .nilFunc) else
 bif t == 153 then some (.sc .nilFunc) else
 bif t == 155 then some (.sc .nilFunc) else
 bif t == 156 then some (.sc .nilFunc) else
 bif t == 157 then some (.sc .nilFunc) else
 bif t == 158 then some (.sc .nilFunc) else
 bif t == 160 then some (.sc .nilFunc) else
 bif t == 161 then some (.sc .nilFunc) else
 bif t == 162 then some (.sc .nilFunc) else
 bif t == 163 then some (.sc (.complex .f64 0 0)) else
 bif t == 164 then some (.sc (.float .f64 0)) else
 bif t == 165 then some (.ro 163 true true []) else
 bif t == 166 then some (.sc .nilFunc) else
 bif t == 167 then some (.sc .nilFunc) else
 bif t == 168 then some (.sc .nilFunc) else
 bif t == 170 then some (.sc .nilFunc) else
 bif t == 172 then some (.sc .nilFunc) else
 bif t == 173 then some (.sc .nilFunc) else
 bif t == 174 then some (.sc .nilFunc) else
 bif t == 176 then some (.sc .nilFunc) else
 bif t == 177 then some (.sc .nilFunc) else
 bif t == 184 then some (.sc .nilFunc) else
 bif t == 185 then some (.st 185 [.ro 5 true true [], .sc (.int .i64 0)]) else
 bif t == 186 then some (.st 186 [.ro 5 true true [], .sc (.int .i64 0)]) else
 bif t == 187 then some (.sc .nilFunc) else
 bif t == 188 then some (.sc .nilFunc) else
 bif t == 189 then some (.ar 189 (List.replicate 64 (.sc (.int .u8 0)))) else
 bif t == 190 then some (.ar 190 (List.replicate 64 (.sc (.int .u8 0)))) else
 bif t == 191 then some (.sc .nilFunc) else
 bif t == 192 then some (.sc .nilFunc) else
 bif t == 193 then some (.sc .nilFunc) else
 bif t == 195 then some (.sc .nilFunc) else
 bif t == 196 then some (.sc .nilFunc) else
 bif t == 197 then some (.sc .nilFunc) else
 bif t == 198 then some (.sc .nilFunc) else
 bif t == 200 then some (.sc .nilFunc) else
 bif t == 202 then some (.sc .nilFunc) else
 bif t == 203 then some (.sc (.pointer none)) else
 bif t == 204 then some (.sc .nilFunc) else
 bif t == 205 then some (.sc .nilFunc) else
 bif t == 206 then some (.sc .nilFunc) else
 bif t == 207 then some (.sc .nilFunc) else
 bif t == 208 then some (.sc .nilFunc) else
 bif t == 209 then some (.sc .nilFunc) else
 bif t == 212 then some (.sc .nilFunc) else
 bif t == 213 then some (.sc .nilFunc) else
 none
def tau : Tab := VO Try.prog tys JyA
theorem Jp : TabOk tau Try.prog := JkP (by kernel_rfl)
theorem Jq : Try.prog.follows .mixedOrders = true := by kernel_rfl
def F0 : Fns := fun _ => none
theorem JD : Jy tau Try.prog F0 := fun g sg h => by cases h
def N67 : Nat := 26
def F67 : Fns := F0
theorem JkT : Jy tau Try.prog F67 := JD
def JcT : Code := Qo (Try.f67.body.get!) [1, 1, 0, 1, 0, 0]
def XK : Nm := [(0, .any), (1, .any), (12, .any), (13, .any)]
def Wk : Nm := [(4, .any)]
def Jfm : An := (.seq .leaf (.seq (.cond .leaf .leaf) (.seq (.block none (.seq .leaf (.seq .leaf (.cond (.seq .leaf .leaf) .leaf)))) .leaf)))
def Jnt (r0 : QE) : An := (.seq .leaf (.seq (.seq .leaf (.cond (.seq .leaf .leaf) .leaf)) (.seq (.seq .leaf (.block none (.sum XK N67 r0))) (.seq .leaf .leaf))))
def VP (f : Nat) (rc : Bool -> Bool -> List PV -> Bool -> Bool -> List PV -> Int -> Int -> Option Res) (k0 : Bool -> Option Res) (k1 : Option Res) (v0 v1 : Bool) (v2 : List PV) (v3 v4 : Bool) (v5 : List PV) (v6 v7 : Int) : Option Res := bif decide (v7 < v6) then bif decide (0 <= v7) && decide (v7 < zi v2.length) && (PV.isSt 45 #[Field.mk "D" 3 0 false "" "" 0, Field.mk "U" 3 1 false "" "" 8].size (v2.getD v7.toNat PV.top) && (PV.isInt IntKind.i64 (PV.child 0 (v2.getD v7.toNat PV.top)) && (PV.isInt IntKind.i64 (PV.child (0 + 1) (v2.getD v7.toNat PV.top)) && true))) && true then bif decide (0 <= v7) && decide (v7 < zi v5.length) && (PV.isSt 45 #[Field.mk "D" 3 0 false "" "" 0, Field.mk "U" 3 1 false "" "" 8].size (v5.getD v7.toNat PV.top) && (PV.isInt IntKind.i64 (PV.child 0 (v5.getD v7.toNat PV.top)) && (PV.isInt IntKind.i64 (PV.child (0 + 1) (v5.getD v7.toNat PV.top)) && true))) && true then bif !((PV.child 0 (v2.getD v7.toNat PV.top)).int == (PV.child 0 (v5.getD v7.toNat PV.top)).int && ((PV.child (0 + 1) (v2.getD v7.toNat PV.top)).int == (PV.child (0 + 1) (v5.getD v7.toNat PV.top)).int && true)) then k0 false else rc v0 v1 v2 v3 v4 v5 v6 (IntKind.i64.wrap (v7 + 1)) else none else none else k1
def Z8 (f : Nat) (k0 : Bool -> Option Res) (k1 : Option Res) : Nat -> Bool -> Bool -> List PV -> Bool -> Bool -> List PV -> Int -> Int -> Option Res
 | 0, _, _, _, _, _, _, _, _ => none
 | n + 1, v0, v1, v2, v3, v4, v5, v6, v7 => VP f (Z8 f k0 k1 n) k0 k1 v0 v1 v2 v3 v4 v5 v6 v7
theorem Jnu (f : Nat) (k : Kont) (n : Nat) (v0 v1 : Bool) (v2 : List PV) (v3 v4 : Bool) (v5 : List PV) (v6 v7 : Int) : Jl tau 0 XK (fun s k => ev tau F67 0 0 JcT (Jfm ) s k) (n + 1) (Jd XK N67 [.ro 45 v0 v1 v2, .ro 45 v3 v4 v5, .sc (.int .i64 v6), .sc (.int .i64 v7)] []) (Jo tau 0 Wk k) = VP f (fun v0 v1 v2 v3 v4 v5 v6 v7 => Jl tau 0 XK (fun s k => ev tau F67 0 0 JcT (Jfm ) s k) n (Jd XK N67 [.ro 45 v0 v1 v2, .ro 45 v3 v4 v5, .sc (.int .i64 v6), .sc (.int .i64 v7)] []) (Jo tau 0 Wk k)) (fun x0 => k Ex.ret (Jd Wk N67 [.sc (.bool x0)] [])) (k (Ex.exit 0) (Jd Wk N67 [PV.top] [])) v0 v1 v2 v3 v4 v5 v6 v7 := by kernel_rfl
theorem Jis (f : Nat) (k : Kont) : ∀ (n : Nat) (v0 v1 : Bool) (v2 : List PV) (v3 v4 : Bool) (v5 : List PV) (v6 v7 : Int), Jl tau 0 XK (fun s k => ev tau F67 0 0 JcT (Jfm ) s k) n (Jd XK N67 [.ro 45 v0 v1 v2, .ro 45 v3 v4 v5, .sc (.int .i64 v6), .sc (.int .i64 v7)] []) (Jo tau 0 Wk k) = Z8 f (fun x0 => k Ex.ret (Jd Wk N67 [.sc (.bool x0)] [])) (k (Ex.exit 0) (Jd Wk N67 [PV.top] [])) n v0 v1 v2 v3 v4 v5 v6 v7 | 0, _, _, _, _, _, _, _, _ => rfl | n + 1, v0, v1, v2, v3, v4, v5, v6, v7 => (Jnu f k n v0 v1 v2 v3 v4 v5 v6 v7).trans (congrArg (fun r => VP f r (fun x0 => k Ex.ret (Jd Wk N67 [.sc (.bool x0)] [])) (k (Ex.exit 0) (Jd Wk N67 [PV.top] [])) v0 v1 v2 v3 v4 v5 v6 v7) (by funext v0 v1 v2 v3 v4 v5 v6 v7; exact Jis f k n v0 v1 v2 v3 v4 v5 v6 v7))
def Jbw (f : Nat) : List PV -> List (Nat × Ent) -> Kont -> Option Res
 | [.ro 45 v0 v1 v2, .ro 45 v3 v4 v5, .sc (.int .i64 v6),
 .sc (.int .i64 v7)], [], k => Z8 f (fun x0 => k Ex.ret (Jd Wk N67 [.sc (.bool x0)] [])) (k (Ex.exit 0) (Jd Wk N67 [PV.top] [])) f v0 v1 v2 v3 v4 v5 v6 v7
 | _, _, _ => none
theorem Jry (f : Nat) : Jf JcT Jfm = [] := by kernel_rfl
theorem Jt6 (f : Nat) : (Item.l JcT XK N67 (Jbw f)).Ok tau Try.prog 0 := Jz Jp JkT Jq (x := Jfm) (nm2 := Wk) (Jm _ _ (by rw [Jry f]; intro q hq; cases hq)) fun vs hp k res hr => by
 unfold Jbw at hr
 split at hr
 · exact ⟨f, 0, (Jis f _ f _ _ _ _ _ _ _ _ ).trans hr⟩
 · cases hr
def g67 (f : Nat) (s1_z s1_f : Bool) (s1 : List PV) (s2_z s2_f : Bool) (s2 : List PV) (k : Res -> Option Res) : Option Res := bif zi s1.length != zi s2.length then k (Res.mk (.sc (.bool false)) [] []) else Z8 f (fun x0_0 => k (Res.mk (.sc (.bool x0_0)) [] [])) (k (Res.mk (.sc (.bool true)) [] [])) f s1_z s1_f s1 s2_z s2_f s2 (zi s1.length) (0)
theorem e67 (f : Nat) (s1_z s1_f : Bool) (s1 : List PV) (s2_z s2_f : Bool) (s2 : List PV) (k : Res -> Option Res) : JQ tau F67 Try.f67 (Try.f67.body.get!) (Jnt (Jbw f)) [.ro] 0 [.ro 45 s1_z s1_f s1, .ro 45 s2_z s2_f s2] [] k = g67 f s1_z s1_f s1 s2_z s2_f s2 k := by kernel_rfl
theorem JyB (f : Nat) : Jf (Try.f67.body.get!) (Jnt (Jbw f)) = [.l JcT XK N67 (Jbw f)] := by kernel_rfl
theorem JyC (f : Nat) : ∀ q ∈ Jf (Try.f67.body.get!) (Jnt (Jbw f)), q.Ok tau Try.prog 0 := by
 rw [JyB f]; simp only [List.forall_mem_cons, List.not_mem_nil, false_implies, implies_true, and_true]; exact Jt6 f
theorem Jt7 : Try.prog.funcs[67]? = some Try.f67 := by kernel_rfl
theorem Jt8 : Try.f67.body = some (Try.f67.body.get!) := by kernel_rfl
theorem JyD : Enters Try.prog 67 := enters_of Jt7 (by kernel_rfl) Jt8
def Jt9 : Fns := F0
theorem Jnv : Jy tau Try.prog Jt9 := JD
def Jit : An := (.seq .leaf (.seq .leaf .leaf))
def Jnw (f : Nat) (a_D a_U b_D b_U : Int) (k : Res -> Option Res) : Option Res := bif decide (a_D < b_D) then k (Res.mk (.sc (.bool true)) [] []) else bif a_D == b_D then k (Res.mk (.sc (.bool (decide (a_U < b_U)))) [] []) else k (Res.mk (.sc (.bool false)) [] [])
theorem JyE (f : Nat) (a_D a_U b_D b_U : Int) (k : Res -> Option Res) : JQ tau Jt9 Try.f148 (Try.f148.body.get!) Jit [.ro] 0 [.st 45 [.sc (.int .i64 a_D), .sc (.int .i64 a_U)], .st 45 [.sc (.int .i64 b_D), .sc (.int .i64 b_U)]] [] k = Jnw f a_D a_U b_D b_U k := by kernel_rfl
theorem Jua (f : Nat) : Jf (Try.f148.body.get!) Jit = [] := by kernel_rfl
theorem Jub (f : Nat) : ∀ q ∈ Jf (Try.f148.body.get!) Jit, q.Ok tau Try.prog 0 := by
 rw [Jua f]; intro q hq; cases hq
theorem JpH : Try.prog.funcs[148]? = some Try.f148 := by kernel_rfl
theorem JpI : Try.f148.body = some (Try.f148.body.get!) := by kernel_rfl
theorem Juc : Enters Try.prog 148 := enters_of JpH (by kernel_rfl) JpI
def JgX : List PV -> List Ent -> (Res -> Option Res) -> Option Res
 | [.st 45 [.sc (.int .i64 a_D), .sc (.int .i64 a_U)], .st 45 [.sc (.int .i64 b_D), .sc (.int .i64 b_U)]], [], k => Jnw 0 a_D a_U b_D b_U k
 | _, _, _ => none
def JyF : Sig := { own := [], run := JgX }
theorem Jud : Jg tau Try.prog 148 JyF := J0 Jp Jnv Jq JpH JpI Jit [.ro] 0 [] JgX (Jub 0) fun xs es k res hr => by
 unfold JgX at hr
 split at hr
 · exact ⟨rfl, 0, (JyE 0 _ _ _ _  _).trans hr⟩
 · cases hr
def VQ : Nat := 18
def JkU : Fns := F0
theorem Jiu : Jy tau Try.prog JkU := JD
def GM : Code := Qo (Try.f116.body.get!) [1, 0, 1, 0, 0]
def Wr : Nm := [(0, .any), (3, .any), (5, .any)]
def QK : Nm := [(4, .any)]
def Jbx : An := (.seq (.seq .leaf (.cond .leaf .leaf)) (.seq (.block none (.seq .leaf (.cond (.seq .leaf .leaf) .leaf))) .leaf))
def Jiv (r0 : QE) : An := (.seq .leaf (.seq (.seq .leaf (.block none (.sum Wr VQ r0))) (.seq .leaf .leaf)))
def YM (f : Nat) (rc : Bool -> Bool -> List PV -> Int -> Int -> Int -> Option Res) (k0 : Bool -> Option Res) (k1 : Option Res) (v0 v1 : Bool) (v2 : List PV) (v3 v4 v5 : Int) : Option Res := bif decide (v3 < zi v2.length) then bif decide (0 <= v3) && decide (v3 < zi v2.length) && (PV.isSt 45 #[Field.mk "D" 3 0 false "" "" 0, Field.mk "U" 3 1 false "" "" 8].size (v2.getD v3.toNat PV.top) && (PV.isInt IntKind.i64 (PV.child 0 (v2.getD v3.toNat PV.top)) && (PV.isInt IntKind.i64 (PV.child (0 + 1) (v2.getD v3.toNat PV.top)) && true))) && true then bif (PV.child 0 (v2.getD v3.toNat PV.top)).int == v4 && ((PV.child (0 + 1) (v2.getD v3.toNat PV.top)).int == v5 && true) then k0 true else rc v0 v1 v2 (IntKind.i64.wrap (v3 + 1)) v4 v5 else none else k1
def XL (f : Nat) (k0 : Bool -> Option Res) (k1 : Option Res) : Nat -> Bool -> Bool -> List PV -> Int -> Int -> Int -> Option Res
 | 0, _, _, _, _, _, _ => none
 | n + 1, v0, v1, v2, v3, v4, v5 => YM f (XL f k0 k1 n) k0 k1 v0 v1 v2 v3 v4 v5
theorem JkV (f : Nat) (k : Kont) (n : Nat) (v0 v1 : Bool) (v2 : List PV) (v3 v4 v5 : Int) : Jl tau 0 Wr (fun s k => ev tau JkU 0 0 GM (Jbx ) s k) (n + 1) (Jd Wr VQ [.ro 45 v0 v1 v2, .ptr 304 [], .sc (.int .i64 v3)] [(304, .box false 45 (PV.st 45 [.sc (.int .i64 v4), .sc (.int .i64 v5)]))]) (Jo tau 0 QK k) = YM f (fun v0 v1 v2 v3 v4 v5 => Jl tau 0 Wr (fun s k => ev tau JkU 0 0 GM (Jbx ) s k) n (Jd Wr VQ [.ro 45 v0 v1 v2, .ptr 304 [], .sc (.int .i64 v3)] [(304, .box false 45 (PV.st 45 [.sc (.int .i64 v4), .sc (.int .i64 v5)]))]) (Jo tau 0 QK k)) (fun x0 => k Ex.ret (Jd QK VQ [.sc (.bool x0)] [])) (k (Ex.exit 0) (Jd QK VQ [PV.top] [])) v0 v1 v2 v3 v4 v5 := by kernel_rfl
theorem Jfn (f : Nat) (k : Kont) : ∀ (n : Nat) (v0 v1 : Bool) (v2 : List PV) (v3 v4 v5 : Int), Jl tau 0 Wr (fun s k => ev tau JkU 0 0 GM (Jbx ) s k) n (Jd Wr VQ [.ro 45 v0 v1 v2, .ptr 304 [], .sc (.int .i64 v3)] [(304, .box false 45 (PV.st 45 [.sc (.int .i64 v4), .sc (.int .i64 v5)]))]) (Jo tau 0 QK k) = XL f (fun x0 => k Ex.ret (Jd QK VQ [.sc (.bool x0)] [])) (k (Ex.exit 0) (Jd QK VQ [PV.top] [])) n v0 v1 v2 v3 v4 v5 | 0, _, _, _, _, _, _ => rfl | n + 1, v0, v1, v2, v3, v4, v5 => (JkV f k n v0 v1 v2 v3 v4 v5).trans (congrArg (fun r => YM f r (fun x0 => k Ex.ret (Jd QK VQ [.sc (.bool x0)] [])) (k (Ex.exit 0) (Jd QK VQ [PV.top] [])) v0 v1 v2 v3 v4 v5) (by funext v0 v1 v2 v3 v4 v5; exact Jfn f k n v0 v1 v2 v3 v4 v5))
def Z9 (f : Nat) : List PV -> List (Nat × Ent) -> Kont -> Option Res
 | [.ro 45 v0 v1 v2, .ptr 304 [],
 PV.sc
  (Value.int IntKind.i64
   v3)], [(304,
  Ent.box false 45
   (PV.st 45
    [.sc (.int .i64 v4),
     .sc (.int .i64 v5)]))], k => XL f (fun x0 => k Ex.ret (Jd QK VQ [.sc (.bool x0)] [])) (k (Ex.exit 0) (Jd QK VQ [PV.top] [])) f v0 v1 v2 v3 v4 v5
 | _, _, _ => none
theorem Jnx (f : Nat) : Jf GM Jbx = [] := by kernel_rfl
theorem Jrz (f : Nat) : (Item.l GM Wr VQ (Z9 f)).Ok tau Try.prog 0 := Jz Jp Jiu Jq (x := Jbx) (nm2 := QK) (Jm _ _ (by rw [Jnx f]; intro q hq; cases hq)) fun vs hp k res hr => by
 unfold Z9 at hr
 split at hr
 · exact ⟨f, 0, (Jfn f _ f _ _ _ _ _ _ ).trans hr⟩
 · cases hr
def JrA (f : Nat) (l_z l_f : Bool) (l : List PV) (a_D a_U : Int) (k : Res -> Option Res) : Option Res := XL f (fun x0_0 => k (Res.mk (.sc (.bool x0_0)) [] [])) (k (Res.mk (.sc (.bool false)) [] [])) f l_z l_f l (0) a_D a_U
theorem JyG (f : Nat) (l_z l_f : Bool) (l : List PV) (a_D a_U : Int) (k : Res -> Option Res) : JQ tau JkU Try.f116 (Try.f116.body.get!) (Jiv (Z9 f)) [.ro] 0 [.ro 45 l_z l_f l, .st 45 [.sc (.int .i64 a_D), .sc (.int .i64 a_U)]] [] k = JrA f l_z l_f l a_D a_U k := by kernel_rfl
theorem Jue (f : Nat) : Jf (Try.f116.body.get!) (Jiv (Z9 f)) = [.l GM Wr VQ (Z9 f)] := by kernel_rfl
theorem Juf (f : Nat) : ∀ q ∈ Jf (Try.f116.body.get!) (Jiv (Z9 f)), q.Ok tau Try.prog 0 := by
 rw [Jue f]; simp only [List.forall_mem_cons, List.not_mem_nil, false_implies, implies_true, and_true]; exact Jrz f
theorem JpJ : Try.prog.funcs[116]? = some Try.f116 := by kernel_rfl
theorem JpK : Try.f116.body = some (Try.f116.body.get!) := by kernel_rfl
theorem JkW : Enters Try.prog 116 := enters_of JpJ (by kernel_rfl) JpK

def Jug : Fns := F0
theorem Jny : Jy tau Try.prog Jug := JD
def Jiw : An := (.seq .leaf (.seq (.seq .leaf (.block none (.seq (.seq .leaf (.cond .leaf .leaf)) (.cond (.seq .leaf (.cond (.seq .leaf .leaf) .leaf)) (.seq .leaf (.cond (.seq (.seq .leaf (.cond (.seq .leaf .leaf) .leaf)) (.seq .leaf (.cond (.seq .leaf .leaf) .leaf))) (.seq .leaf .leaf))))))) (.seq .leaf .leaf)))
def Jnz (f : Nat) (y0 c_N : Int) (c_S : ByteArray) (k : Res -> Option Res) : Option Res := bif y0 == 1 then bif y0 == 1 then bif decide (c_N < 1) then k (Res.mk (.sc (.int .i64 1)) [] []) else bif decide (c_N > 120) then k (Res.mk (.sc (.int .i64 1)) [] []) else bif !Yw c_S (ByteArray.mk (Array.mk [])) then k (Res.mk (.sc (.int .i64 1)) [] []) else k (Res.mk (.sc (.int .i64 0)) [] []) else bif y0 == 2 then bif c_N != 0 then k (Res.mk (.sc (.int .i64 1)) [] []) else bif Yw c_S (ByteArray.mk (Array.mk [])) then k (Res.mk (.sc (.int .i64 1)) [] []) else bif decide (zi c_S.size > 120) then k (Res.mk (.sc (.int .i64 5)) [] []) else k (Res.mk (.sc (.int .i64 0)) [] []) else k (Res.mk (.sc (.int .i64 3)) [] []) else bif y0 == 3 then bif decide (c_N < 1) then k (Res.mk (.sc (.int .i64 1)) [] []) else bif decide (c_N > 120) then k (Res.mk (.sc (.int .i64 1)) [] []) else bif !Yw c_S (ByteArray.mk (Array.mk [])) then k (Res.mk (.sc (.int .i64 1)) [] []) else k (Res.mk (.sc (.int .i64 0)) [] []) else bif y0 == 2 then bif c_N != 0 then k (Res.mk (.sc (.int .i64 1)) [] []) else bif Yw c_S (ByteArray.mk (Array.mk [])) then k (Res.mk (.sc (.int .i64 1)) [] []) else bif decide (zi c_S.size > 120) then k (Res.mk (.sc (.int .i64 5)) [] []) else k (Res.mk (.sc (.int .i64 0)) [] []) else k (Res.mk (.sc (.int .i64 3)) [] [])
theorem JyH (f : Nat) (y0 c_N : Int) (c_S : ByteArray) (k : Res -> Option Res) : JQ tau Jug Try.f145 (Try.f145.body.get!) Jiw [.ro] 0 [.st 99 [.sc (.int .i64 y0), .sc (.int .i64 c_N), .sc (.string c_S)]] [] k = Jnz f y0 c_N c_S k := by kernel_rfl
theorem Juh (f : Nat) : Jf (Try.f145.body.get!) Jiw = [] := by kernel_rfl
theorem Jui (f : Nat) : ∀ q ∈ Jf (Try.f145.body.get!) Jiw, q.Ok tau Try.prog 0 := by
 rw [Juh f]; intro q hq; cases hq
theorem JpL : Try.prog.funcs[145]? = some Try.f145 := by kernel_rfl
theorem JpM : Try.f145.body = some (Try.f145.body.get!) := by kernel_rfl
theorem Juj : Enters Try.prog 145 := enters_of JpL (by kernel_rfl) JpM
def JgY : List PV -> List Ent -> (Res -> Option Res) -> Option Res
 | [.st 99 [.sc (.int .i64 y0), .sc (.int .i64 c_N), .sc (.string c_S)]], [], k => Jnz 0 y0 c_N c_S k
 | _, _, _ => none
def JyI : Sig := { own := [], run := JgY }
theorem Juk : Jg tau Try.prog 145 JyI := J0 Jp Jny Jq JpL JpM Jiw [.ro] 0 [] JgY (Jui 0) fun xs es k res hr => by
 unfold JgY at hr
 split at hr
 · exact ⟨rfl, 0, (JyH 0 _ _ _  _).trans hr⟩
 · cases hr
-- FN op.check | ref4.check
structure CV where
 (kd n : Int) (s : ByteArray)
def JgZ (c : CV) : Int :=
 bif c.kd == 1 || c.kd == 3 then (bif decide (c.n < 1) || (decide (c.n > 120) || !(c.s.size == 0)) then 1 else 0)
 else bif c.kd == 2 then (bif !(c.n == 0) || c.s.size == 0 then 1 else bif decide (zi c.s.size > 120) then 5 else 0) else 3
def ckC : CV -> Int := hid JgZ
theorem Jby (c : CV) : ckC c = JgZ c := by rw [ckC, hid_eq]
theorem JkX (s : ByteArray) : Yw s (ByteArray.mk (Array.mk [])) = (s.size == 0) := by
 rw [JaS]
 cases h : (s.size == 0) with
 | true =>
  have hs : s.size = 0 := by simpa using h
  refine decide_eq_true (ByteArray.ext (Array.eq_empty_of_size_eq_zero hs))
 | false =>
  refine decide_eq_false fun he => ?_
  rw [he] at h
  exact absurd h (by decide)
theorem JnA (kd n : Int) (s : ByteArray) (k : Res -> Option Res) : Jnz 0 kd n s k = k ⟨.sc (.int .i64 (ckC ⟨kd, n, s⟩)), [], []⟩ := by
 rw [Jby]
 unfold Jnz JgZ
 simp only [JkX, bne]
 have hcomb : (s.size == 0) = true -> decide (zi s.size > 120) = false := fun h => by
  have : s.size = 0 := by simpa using h
  rw [this]; decide
 generalize (s.size == 0) = e0 at *
 generalize decide (zi s.size > 120) = e1 at *
 generalize decide (n < 1) = a
 generalize decide (n > 120) = b
 generalize (n == 0) = c
 generalize (kd == 1) = d1
 generalize (kd == 2) = d2
 generalize (kd == 3) = d3
 cases d1 <;> cases d3 <;> cases d2 <;> cases e0 <;> cases e1 <;> cases a <;> cases b <;> cases c <;> first | rfl | exact absurd (hcomb rfl) (by decide)
def JdW : List PV -> List Ent -> (Res -> Option Res) -> Option Res
 | [.st 99 [.sc (.int .i64 kd), .sc (.int .i64 n), .sc (.string s)]], [], k => k ⟨.sc (.int .i64 (ckC ⟨kd, n, s⟩)), [], []⟩
 | _, _, _ => none
def JpN : Sig := { own := [], run := JdW }
theorem JrB : Jg tau Try.prog 145 JpN := Juk.of fun xs es k res hr => by
 change JdW xs es k = some res at hr
 unfold JdW at hr
 split at hr
 · rename_i kd n s
   exact (JnA kd n s k).trans hr
 · cases hr

def VR : Nat := 22
def JkY : Fns := JH 145 JpN (F0)
theorem Jix : Jy tau Try.prog JkY := (JD).add JrB Juj
def GN : Code := Qo (Try.f117.body.get!) [1, 1, 0, 1, 0, 0]
def Ws : Nm := [(0, .any), (3, .any)]
def QL : Nm := [(2, .any)]
def Jbz : An := (.seq (.seq .leaf (.cond .leaf .leaf)) (.seq (.block none (.seq .leaf (.seq .leaf (.cond (.seq .leaf .leaf) .leaf)))) .leaf))
def Jiy (r0 : QE) : An := (.seq .leaf (.seq (.seq .leaf (.cond (.seq .leaf .leaf) .leaf)) (.seq (.seq .leaf (.block none (.sum Ws VR r0))) (.seq .leaf .leaf))))
def YN (f : Nat) (rc : Bool -> Bool -> List PV -> Int -> Option Res) (k0 : Int -> Option Res) (k1 : Option Res) (v0 v1 : Bool) (v2 : List PV) (v3 : Int) : Option Res := bif decide (v3 < zi v2.length) then bif decide (0 <= v3) && decide (v3 < zi v2.length) && (PV.isSt 99 #[Field.mk "Kind" 3 0 false "" "" 0, Field.mk "N" 3 1 false "" "" 8, Field.mk "S" 9 2 false "" "" 16].size (v2.getD v3.toNat PV.top) && (PV.isInt IntKind.i64 (PV.child 0 (v2.getD v3.toNat PV.top)) && (PV.isInt IntKind.i64 (PV.child (0 + 1) (v2.getD v3.toNat PV.top)) && ((PV.child (0 + 1 + 1) (v2.getD v3.toNat PV.top)).isStr && true)))) && true then bif ckC (CV.mk (PV.child 0 (v2.getD v3.toNat PV.top)).int (PV.child (0 + 1) (v2.getD v3.toNat PV.top)).int (PV.child (0 + 1 + 1) (v2.getD v3.toNat PV.top)).str) != 0 then k0 (ckC (CV.mk (PV.child 0 (v2.getD v3.toNat PV.top)).int (PV.child (0 + 1) (v2.getD v3.toNat PV.top)).int (PV.child (0 + 1 + 1) (v2.getD v3.toNat PV.top)).str)) else rc v0 v1 v2 (IntKind.i64.wrap (v3 + 1)) else none else k1
def XM (f : Nat) (k0 : Int -> Option Res) (k1 : Option Res) : Nat -> Bool -> Bool -> List PV -> Int -> Option Res
 | 0, _, _, _, _ => none
 | n + 1, v0, v1, v2, v3 => YN f (XM f k0 k1 n) k0 k1 v0 v1 v2 v3
theorem JkZ (f : Nat) (k : Kont) (n : Nat) (v0 v1 : Bool) (v2 : List PV) (v3 : Int) : Jl tau 0 Ws (fun s k => ev tau JkY 0 0 GN (Jbz ) s k) (n + 1) (Jd Ws VR [.ro 99 v0 v1 v2, .sc (.int .i64 v3)] []) (Jo tau 0 QL k) = YN f (fun v0 v1 v2 v3 => Jl tau 0 Ws (fun s k => ev tau JkY 0 0 GN (Jbz ) s k) n (Jd Ws VR [.ro 99 v0 v1 v2, .sc (.int .i64 v3)] []) (Jo tau 0 QL k)) (fun x0 => k Ex.ret (Jd QL VR [.sc (.int .i64 x0)] [])) (k (Ex.exit 0) (Jd QL VR [PV.top] [])) v0 v1 v2 v3 := by kernel_rfl
theorem Jfp (f : Nat) (k : Kont) : ∀ (n : Nat) (v0 v1 : Bool) (v2 : List PV) (v3 : Int), Jl tau 0 Ws (fun s k => ev tau JkY 0 0 GN (Jbz ) s k) n (Jd Ws VR [.ro 99 v0 v1 v2, .sc (.int .i64 v3)] []) (Jo tau 0 QL k) = XM f (fun x0 => k Ex.ret (Jd QL VR [.sc (.int .i64 x0)] [])) (k (Ex.exit 0) (Jd QL VR [PV.top] [])) n v0 v1 v2 v3 | 0, _, _, _, _ => rfl | n + 1, v0, v1, v2, v3 => (JkZ f k n v0 v1 v2 v3).trans (congrArg (fun r => YN f r (fun x0 => k Ex.ret (Jd QL VR [.sc (.int .i64 x0)] [])) (k (Ex.exit 0) (Jd QL VR [PV.top] [])) v0 v1 v2 v3) (by funext v0 v1 v2 v3; exact Jfp f k n v0 v1 v2 v3))
def Va (f : Nat) : List PV -> List (Nat × Ent) -> Kont -> Option Res
 | [.ro 99 v0 v1 v2,
 .sc (.int .i64 v3)], [], k => XM f (fun x0 => k Ex.ret (Jd QL VR [.sc (.int .i64 x0)] [])) (k (Ex.exit 0) (Jd QL VR [PV.top] [])) f v0 v1 v2 v3
 | _, _, _ => none
theorem JnB (f : Nat) : Jf GN Jbz = [] := by kernel_rfl
theorem JrC (f : Nat) : (Item.l GN Ws VR (Va f)).Ok tau Try.prog 0 := Jz Jp Jix Jq (x := Jbz) (nm2 := QL) (Jm _ _ (by rw [JnB f]; intro q hq; cases hq)) fun vs hp k res hr => by
 unfold Va at hr
 split at hr
 · exact ⟨f, 0, (Jfp f _ f _ _ _ _ ).trans hr⟩
 · cases hr
def JrD (f : Nat) (o_z o_f : Bool) (o : List PV) (k : Res -> Option Res) : Option Res := bif decide (zi o.length > 40) then k (Res.mk (.sc (.int .i64 4)) [] []) else XM f (fun x0_0 => k (Res.mk (.sc (.int .i64 x0_0)) [] [])) (k (Res.mk (.sc (.int .i64 0)) [] [])) f o_z o_f o (0)
theorem JyJ (f : Nat) (o_z o_f : Bool) (o : List PV) (k : Res -> Option Res) : JQ tau JkY Try.f117 (Try.f117.body.get!) (Jiy (Va f)) [.ro] 0 [.ro 99 o_z o_f o] [] k = JrD f o_z o_f o k := by kernel_rfl
theorem Jul (f : Nat) : Jf (Try.f117.body.get!) (Jiy (Va f)) = [.l GN Ws VR (Va f)] := by kernel_rfl
theorem Jum (f : Nat) : ∀ q ∈ Jf (Try.f117.body.get!) (Jiy (Va f)), q.Ok tau Try.prog 0 := by
 rw [Jul f]; simp only [List.forall_mem_cons, List.not_mem_nil, false_implies, implies_true, and_true]; exact JrC f
theorem JpO : Try.prog.funcs[117]? = some Try.f117 := by kernel_rfl
theorem JpP : Try.f117.body = some (Try.f117.body.get!) := by kernel_rfl
theorem Jk0 : Enters Try.prog 117 := enters_of JpO (by kernel_rfl) JpP

-- FN op.Check | ref4.Check | law4.Few
def isCp : PV -> Bool
 | .st t [.sc (.int .i64 _), .sc (.int .i64 _), .sc (.string _)] => t == 99
 | _ => false
theorem Jfq {p : PV} : isCp p = true ↔ ∃ kd n s, p = .st 99 [.sc (.int .i64 kd), .sc (.int .i64 n), .sc (.string s)] := by
 constructor
 · intro h
   unfold isCp at h
   split at h
   · rename_i t kd n s
     obtain rfl : t = 99 := by simpa using h
     exact ⟨kd, n, s, rfl⟩
   · cases h
 · rintro ⟨kd, n, s, rfl⟩; rfl
def cv (p : PV) : CV := ⟨(p.child 0).int, (p.child 1).int, (p.child 2).str⟩
theorem GP {p : PV} (h : isCp p = true) : (PV.isSt 99 #[Field.mk "Kind" 3 0 false "" "" 0, Field.mk "N" 3 1 false "" "" 8, Field.mk "S" 9 2 false "" "" 16].size p && (PV.isInt IntKind.i64 (PV.child 0 p) && (PV.isInt IntKind.i64 (PV.child (0 + 1) p) && ((PV.child (0 + 1 + 1) p).isStr && true)))) = true := by
 obtain ⟨kd, n, s, rfl⟩ := Jfq.1 h
 simp [PV.isSt, PV.child, PV.isInt, PV.isStr]
theorem ZH {l : List PV} (h : l.all isCp = true) {i : Nat} (hi : i < l.length) : isCp (l.getD i .top) = true := by
 rw [List.getD_eq_getElem?_getD, List.getElem?_eq_getElem hi]
 exact List.all_eq_true.1 h _ (List.getElem_mem hi)
def ckL : List PV -> Int
 | [] => 0
 | p :: r => bif ckC (cv p) == 0 then ckL r else ckC (cv p)
def Jk1 (l : List PV) : Int := bif decide (zi l.length > 40) then 4 else ckL l
def ckO : List PV -> Int := hid Jk1
theorem Jg0 (l : List PV) : ckO l = Jk1 l := by rw [ckO, hid_eq]
def cOk : List PV -> Bool := hid fun l => l.all isCp && Nat.ble l.length 9223372036854775807
theorem XN {l : List PV} : cOk l = true ↔ l.all isCp = true /\ l.length <= 9223372036854775807 := by
 rw [cOk, hid_eq, Bool.and_eq_true, Nat.ble_eq]
theorem Qf {l : List PV} {i : Nat} (h : i < l.length) : l.drop i = l.getD i .top :: l.drop (i + 1) := by
 rw [List.drop_eq_getElem_cons h]; simp [List.getD_eq_getElem?_getD, h]
theorem Jk2 (l : List PV) (h1 : l.all isCp = true) (h2 : l.length <= 40) (f : Nat) (k0 : Int -> Option Res) (k1 : Option Res) (z fl : Bool) : ∀ (d i n : Nat), i + d = l.length -> d < n ->
  XM f k0 k1 n z fl l (i : Int) = bif ckL (l.drop i) == 0 then k1 else k0 (ckL (l.drop i))
 | 0, i, n + 1, hi, hn => by
   rw [List.drop_of_length_le (by omega)]
   simp only [XM, YN]
   exact Ji (by simp [zi]; omega)
 | d + 1, i, n + 1, hi, hn => by
   have g1 : ((i : Int)).toNat = i := by omega
   have w1 : IntKind.i64.wrap ((i : Int) + 1) = ((i + 1 : Nat) : Int) := by rw [wrap_i64 (by omega) (by omega)]; omega
   have hro : (decide (0 <= (i : Int)) && decide ((i : Int) < zi l.length) && (PV.isSt 99 #[Field.mk "Kind" 3 0 false "" "" 0, Field.mk "N" 3 1 false "" "" 8, Field.mk "S" 9 2 false "" "" 16].size (l.getD i PV.top) && (PV.isInt IntKind.i64 (PV.child 0 (l.getD i PV.top)) && (PV.isInt IntKind.i64 (PV.child (0 + 1) (l.getD i PV.top)) && ((PV.child (0 + 1 + 1) (l.getD i PV.top)).isStr && true)))) && true) = true := by
    have hq : (PV.isSt 99 #[Field.mk "Kind" 3 0 false "" "" 0, Field.mk "N" 3 1 false "" "" 8, Field.mk "S" 9 2 false "" "" 16].size (l.getD i PV.top) && (PV.isInt IntKind.i64 (PV.child 0 (l.getD i PV.top)) && (PV.isInt IntKind.i64 (PV.child (0 + 1) (l.getD i PV.top)) && ((PV.child (0 + 1 + 1) (l.getD i PV.top)).isStr && true)))) = true := GP (ZH h1 (by omega))
    rw [hq]; simp [zi]; omega
   have hd := Qf (l := l) (i := i) (by omega)
   have hs : CV.mk (PV.child 0 (l.getD i PV.top)).int (PV.child (0 + 1) (l.getD i PV.top)).int (PV.child (0 + 1 + 1) (l.getD i PV.top)).str = cv (l.getD i .top) := rfl
   simp only [XM, YN, g1, w1, hs]
   refine (Jc (by simp [zi]; omega)).trans ((Jc hro).trans ?_)
   rw [hd]
   cases hc : (ckC (cv (l.getD i .top)) == 0) with
   | true =>
    refine (Ji (by simp only [bne, hc]; rfl)).trans ?_
    rw [Jk2 l h1 h2 f k0 k1 z fl d (i + 1) n (by omega) (by omega)]
    simp only [ckL, hc, cond_true]
   | false =>
    refine (Jc (by simp only [bne, hc]; rfl)).trans ?_
    simp only [ckL, hc, cond_false]
def JdX : List PV -> List Ent -> (Res -> Option Res) -> Option Res
 | [.ro 99 z f l], [], k => bif cOk l then k ⟨.sc (.int .i64 (ckO l)), [], []⟩ else none
 | _, _, _ => none
def Jiz : Sig := { own := [], run := JdX }
theorem JnC (z f : Bool) (l : List PV) (h : cOk l = true) (k : Res -> Option Res) : JrD 50 z f l k = k ⟨.sc (.int .i64 (ckO l)), [], []⟩ := by
 obtain ⟨h1, h2⟩ := XN.1 h
 rw [Jg0]
 unfold JrD Jk1
 cases hc : decide (zi l.length > 40) with
 | true => rfl
 | false =>
  have hl : l.length <= 40 := by simp only [zi, decide_eq_false_iff_not] at hc; omega
  rw [cond_false, cond_false]
  refine (Jk2 l h1 hl 50 _ _ z f l.length 0 50 (by omega) (by omega)).trans ?_
  rw [List.drop_zero]
  cases h0 : (ckL l == 0) with
  | true =>
   have : ckL l = 0 := by simpa using h0
   rw [this]; rfl
  | false => rfl
theorem Jg1 : Jg tau Try.prog 117 Jiz := Jg.mk' fun xs es k res hl hr => by
 change JdX xs es k = some res at hr
 unfold JdX at hr
 split at hr
 · rename_i z f l
   obtain ⟨hc, hr⟩ := JE hr
   exact Qr Jp Jix Jq JpO JpP (Jiy (Va 50)) [.ro] 0 0 (Jum 50) hl rfl ((JyJ 50 z f l k).trans ((JnC z f l hc k).trans hr))
 · cases hr



def F91 : Fns := F0
theorem JrE : Jy tau Try.prog F91 := JD
def JnD : An := (.seq .leaf (.seq .leaf .leaf))
def g91 (f : Nat) (a_D a_U : Int) (k : Res -> Option Res) : Option Res := bif decide (a_D >= 0) then bif decide (a_D < 3) then bif decide (a_U >= 0) then k (Res.mk (.sc (.bool (decide (a_U < 8)))) [] []) else k (Res.mk (.sc (.bool false)) [] []) else k (Res.mk (.sc (.bool false)) [] []) else k (Res.mk (.sc (.bool false)) [] [])
theorem e91 (f : Nat) (a_D a_U : Int) (k : Res -> Option Res) : JQ tau F91 Try.f91 (Try.f91.body.get!) JnD [.ro] 0 [.st 45 [.sc (.int .i64 a_D), .sc (.int .i64 a_U)]] [] k = g91 f a_D a_U k := by kernel_rfl
theorem JyK (f : Nat) : Jf (Try.f91.body.get!) JnD = [] := by kernel_rfl
theorem JyL (f : Nat) : ∀ q ∈ Jf (Try.f91.body.get!) JnD, q.Ok tau Try.prog 0 := by
 rw [JyK f]; intro q hq; cases hq
theorem Jun : Try.prog.funcs[91]? = some Try.f91 := by kernel_rfl
theorem Juo : Try.f91.body = some (Try.f91.body.get!) := by kernel_rfl
theorem Jup : Enters Try.prog 91 := enters_of Jun (by kernel_rfl) Juo
def Jk3 : List PV -> List Ent -> (Res -> Option Res) -> Option Res
 | [.st 45 [.sc (.int .i64 a_D), .sc (.int .i64 a_U)]], [], k => g91 0 a_D a_U k
 | _, _, _ => none
def s91 : Sig := { own := [], run := Jk3 }
theorem JyM : Jg tau Try.prog 91 s91 := J0 Jp JrE Jq Jun Juo JnD [.ro] 0 [] Jk3 (JyL 0) fun xs es k res hr => by
 unfold Jk3 at hr
 split at hr
 · exact ⟨rfl, 0, (e91 0 _ _  _).trans hr⟩
 · cases hr
-- FN ref16.domain | ref16.Wave | ref16.number | ref8.User
def inZ (x m : Int) : Bool := decide (x >= 0) && decide (x <= m)
def JnE : List Int -> Bool
 | x :: m :: r => inZ x m && JnE r
 | _ => true
def inA : List Int -> Bool := hid JnE
theorem JrF (l : List Int) : inA l = JnE l := by rw [inA, hid_eq]
theorem JiA (a b c d : Int) : inA [a, b, c, d] = (inZ a b && inZ c d) := by rw [JrF]; simp [JnE]
def Jg2 : List PV -> List Ent -> (Res -> Option Res) -> Option Res
 | [.st 45 [.sc (.int .i64 a), .sc (.int .i64 b)]], [], k => k ⟨.sc (.bool (inA [a, 2, b, 7])), [], []⟩
 | _, _, _ => none
def JrG : Sig := { own := [], run := Jg2 }
theorem JpQ : Jg tau Try.prog 91 JrG := JyM.of fun xs es k res hr => by
 change Jg2 xs es k = some res at hr
 unfold Jg2 at hr
 split at hr
 · rename_i a b
   show g91 0 a b k = some res
   rw [JiA] at hr
   unfold g91
   unfold inZ at hr
   by_cases h1 : a >= 0 <;> by_cases h2 : a < 3 <;> by_cases h3 : b >= 0 <;> by_cases h4 : b < 8 <;> simp [h1, h2, h3, h4, show (a <= 2) ↔ (a < 3) from by omega, show (b <= 7) ↔ (b < 8) from by omega] at hr ⊢ <;> exact hr
 · cases hr



def Juq : Fns := JH 117 Jiz (JH 91 JrG (F0))
theorem JnF : Jy tau Try.prog Juq := ((JD).add JpQ Jup).add Jg1 Jk0
def JiB : An := (.seq .leaf (.seq (.seq .leaf (.cond (.seq .leaf .leaf) .leaf)) (.seq (.seq .leaf (.block none (.seq .leaf (.cond (.seq .leaf (.seq (.seq .leaf (.cond (.seq .leaf .leaf) .leaf)) (.seq .leaf (.cond (.seq .leaf .leaf) .leaf)))) (.seq (.seq .leaf (.cond .leaf .leaf)) (.cond (.seq .leaf (.cond (.seq .leaf .leaf) .leaf)) (.seq .leaf .leaf))))))) (.seq .leaf .leaf))))
def JnG (f : Nat) (y0 y1 d_Id y2 : Int) (y3 : List PV) (y4 : Int) (y5 y6 : Bool) (d_Op : List PV) (y7 y8 : Int) (k : Res -> Option Res) : Option Res := bif !inA [y0, 2, y1, 7] then k (Res.mk (.sc (.int .i64 1)) [] []) else bif decide (d_Id < 0) then k (Res.mk (.sc (.int .i64 1)) [] []) else bif decide (d_Id > 1073741824) then k (Res.mk (.sc (.int .i64 1)) [] []) else bif decide (y2 < 0) then k (Res.mk (.sc (.int .i64 1)) [] []) else bif decide (y2 > 1048576) then k (Res.mk (.sc (.int .i64 1)) [] []) else bif y4 == 1 then bif cOk d_Op then bif ckO d_Op != 0 then k (Res.mk (.sc (.int .i64 (ckO d_Op))) [] []) else bif !(y7 == 0 && (y8 == 0 && true)) then k (Res.mk (.sc (.int .i64 1)) [] []) else k (Res.mk (.sc (.int .i64 0)) [] []) else none else bif y4 == 2 then bif y4 == 2 then bif decide (zi d_Op.length > 0) then k (Res.mk (.sc (.int .i64 1)) [] []) else bif !inA [y7, 2, y8, 7] then k (Res.mk (.sc (.int .i64 1)) [] []) else k (Res.mk (.sc (.int .i64 0)) [] []) else k (Res.mk (.sc (.int .i64 3)) [] []) else bif y4 == 3 then bif decide (zi d_Op.length > 0) then k (Res.mk (.sc (.int .i64 1)) [] []) else bif !inA [y7, 2, y8, 7] then k (Res.mk (.sc (.int .i64 1)) [] []) else k (Res.mk (.sc (.int .i64 0)) [] []) else k (Res.mk (.sc (.int .i64 3)) [] [])
theorem JyN (f : Nat) (y0 y1 d_Id y2 : Int) (y3 : List PV) (y4 : Int) (y5 y6 : Bool) (d_Op : List PV) (y7 y8 : Int) (k : Res -> Option Res) : JQ tau Juq Try.f107 (Try.f107.body.get!) JiB [.ro] 0 [.st 73 [.st 45 [.sc (.int .i64 y0), .sc (.int .i64 y1)], .sc (.int .i64 d_Id), .sc (.int .i64 y2), .ar 37 y3, .sc (.int .i64 y4), .ro 99 y5 y6 d_Op, .st 45 [.sc (.int .i64 y7), .sc (.int .i64 y8)]]] [] k = JnG f y0 y1 d_Id y2 y3 y4 y5 y6 d_Op y7 y8 k := by kernel_rfl
theorem Jur (f : Nat) : Jf (Try.f107.body.get!) JiB = [] := by kernel_rfl
theorem Jus (f : Nat) : ∀ q ∈ Jf (Try.f107.body.get!) JiB, q.Ok tau Try.prog 0 := by
 rw [Jur f]; intro q hq; cases hq
theorem JpR : Try.prog.funcs[107]? = some Try.f107 := by kernel_rfl
theorem JpS : Try.f107.body = some (Try.f107.body.get!) := by kernel_rfl
theorem Jut : Enters Try.prog 107 := enters_of JpR (by kernel_rfl) JpS
def Jg3 : List PV -> List Ent -> (Res -> Option Res) -> Option Res
 | [.st 73 [.st 45 [.sc (.int .i64 y0), .sc (.int .i64 y1)], .sc (.int .i64 d_Id), .sc (.int .i64 y2), .ar 37 y3, .sc (.int .i64 y4), .ro 99 y5 y6 d_Op, .st 45 [.sc (.int .i64 y7), .sc (.int .i64 y8)]]], [], k => JnG 0 y0 y1 d_Id y2 y3 y4 y5 y6 d_Op y7 y8 k
 | _, _, _ => none
def JyO : Sig := { own := [], run := Jg3 }
theorem Juu : Jg tau Try.prog 107 JyO := J0 Jp JnF Jq JpR JpS JiB [.ro] 0 [] Jg3 (Jus 0) fun xs es k res hr => by
 unfold Jg3 at hr
 split at hr
 · exact ⟨rfl, 0, (JyN 0 _ _ _ _ _ _ _ _ _ _ _  _).trans hr⟩
 · cases hr








structure RS where
 b : List PV
 e : Int
def byB (l : List PV) : Bool := l.all fun p => p.isInt .u8 && (decide (0 <= p.int) && decide (p.int < 256))
def Yt : List Int -> Int
 | [] => 0
 | x :: r => x + 256 * Yt r
def Xr (n : Nat) (s : RS) : Bool := s.e == 0 && Nat.ble n s.b.length
def Qm (n : Nat) (s : RS) : RS := bif Xr n s then ⟨s.b.drop n, 0⟩ else ⟨s.b, bif s.e == 0 then 8 else s.e⟩
def Qb (n : Nat) (s : RS) : List PV := bif Xr n s then s.b.take n else []
def Wf (n : Nat) (s : RS) : Int := IntKind.i64.wrap (Yt (Jw (Qb n s)))
def okS : Nat -> RS -> Bool := hid Xr
def QG : Nat -> RS -> List PV := hid Qb
theorem Jk4 (n : Nat) (s : RS) : okS n s = Xr n s := by rw [okS, hid_eq]
theorem JaT (n : Nat) (s : RS) : QG n s = Qb n s := by rw [QG, hid_eq]
def JK : Nat -> RS -> RS := hid Qm
def Qe : Nat -> RS -> Int := hid Wf
theorem VS (n : Nat) (s : RS) : JK n s = Qm n s := by rw [JK, hid_eq]
theorem JdY (n : Nat) (s : RS) : Qe n s = Wf n s := by rw [Qe, hid_eq]
def Jfr (s : RS) : RS := Qm (Wf 2 s).toNat (Qm 2 s)
def Jaq (s : RS) : ByteArray := ⟨(JC (Qb (Wf 2 s).toNat (Qm 2 s))).toArray⟩
def Jj6 : RS -> RS := hid Jfr
def JdZ : RS -> ByteArray := hid Jaq
theorem JiC (s : RS) : Jj6 s = Jfr s := by rw [Jj6, hid_eq]
theorem JiD (s : RS) : JdZ s = Jaq s := by rw [JdZ, hid_eq]
theorem Wt {l : List PV} : byB l = true ↔ Jj .u8 l = true /\ ∀ x ∈ Jw l, 0 <= x /\ x < 256 := by
 induction l with
 | nil => simp [byB, Jj, Jw]
 | cons p ps ih =>
  have e1 : byB (p :: ps) = ((p.isInt .u8 && (decide (0 <= p.int) && decide (p.int < 256))) && byB ps) := rfl
  have e2 : Jw (p :: ps) = p.int :: Jw ps := rfl
  have e3 : Jj .u8 (p :: ps) = (p.isInt .u8 && Jj .u8 ps) := rfl
  rw [e1, e2, e3]
  simp only [Bool.and_eq_true, decide_eq_true_eq, List.mem_cons, forall_eq_or_imp, ih]
  constructor
  · rintro ⟨⟨h1, h2⟩, h3, h4⟩
    exact ⟨⟨h1, h3⟩, h2, h4⟩
  · rintro ⟨⟨h1, h3⟩, h2, h4⟩
    exact ⟨⟨h1, h2⟩, h3, h4⟩
theorem Jk5 {l : List PV} (h : byB l = true) (n : Nat) : byB (l.take n) = true := List.all_eq_true.2 fun p hp => List.all_eq_true.1 h p (List.mem_of_mem_take hp)
theorem Jfs {l : List PV} (h : byB l = true) (n : Nat) : byB (l.drop n) = true := List.all_eq_true.2 fun p hp => List.all_eq_true.1 h p (List.mem_of_mem_drop hp)
theorem Jg4 {l : List Int} : byB (pu .u8 l) = true ↔ ∀ x ∈ l, 0 <= x /\ x < 256 := by rw [Wt]; simp
theorem Jft {s : RS} (h : byB s.b = true) (n : Nat) : byB (Qm n s).b = true := by
 unfold Qm; cases Xr n s
 · exact h
 · exact Jfs h n
theorem VT {s : RS} (h : byB s.b = true) (n : Nat) : byB (Qb n s) = true := by
 unfold Qb; cases Xr n s
 · rfl
 · exact Jk5 h n
theorem WP (n : Nat) (s : RS) : (Qb n s).length <= n := by
 unfold Qb; cases Xr n s
 · exact Nat.zero_le _
 · simp; omega
theorem YO : ∀ (l : List Int), (∀ x ∈ l, 0 <= x /\ x < 256) -> 0 <= Yt l /\ Yt l < 256 ^ l.length
 | [], h => by simp [Yt]
 | x :: r, h => by
  have h1 := h x List.mem_cons_self
  have h2 := YO r fun y hy => h y (List.mem_cons_of_mem _ hy)
  simp only [Yt, List.length_cons, Int.pow_succ]
  generalize (256 : Int) ^ r.length = B at *
  omega
theorem Vb {s : RS} (h : byB s.b = true) {n : Nat} (hn : n <= 2) : 0 <= Wf n s /\ Wf n s < 65536 := by
 have h1 := YO (Jw (Qb n s)) (Wt.1 (VT h n)).2
 have h2 : (Jw (Qb n s)).length <= 2 := by rw [Wd]; exact Nat.le_trans (WP n s) hn
 have h3 : (256 : Int) ^ (Jw (Qb n s)).length <= 65536 := by
  generalize (Jw (Qb n s)).length = m at *
  match m, h2 with
  | 0, _ => decide
  | 1, _ => decide
  | 2, _ => decide
 unfold Wf
 rw [wrap_i64 (by omega) (by omega)]; omega
structure RT where
 B : List PV
 P : Int
 e : Int
def RT.view (t : RT) : RS := ⟨t.B.drop t.P.toNat, t.e⟩
def okT (t : RT) : Bool := decide (0 <= t.P) && (decide (t.P <= (t.B.length : Int)) && (byB t.B && Nat.ble t.B.length 1000000000))
def QA (n : Nat) (t : RT) : RT := bif Xr n t.view then ⟨t.B, ((t.P.toNat + n : Nat) : Int), 0⟩ else ⟨t.B, t.P, bif t.e == 0 then 8 else t.e⟩
def Ja : Nat -> RT -> RT := hid QA
def Jt : Nat -> RT -> Int := hid fun n t => Wf n t.view
def VU (t : RT) : RT := QA (Wf 2 t.view).toNat (QA 2 t)
def JX : RT -> RT := hid VU
def JF : RT -> ByteArray := hid fun t => Jaq t.view
theorem Wg (n : Nat) (t : RT) : Ja n t = QA n t := by rw [Ja, hid_eq]
theorem JaU (n : Nat) (t : RT) : Jt n t = Wf n t.view := by rw [Jt, hid_eq]
theorem Jd0 (t : RT) : JX t = VU t := by rw [JX, hid_eq]
theorem Jfu (t : RT) : JF t = Jaq t.view := by rw [JF, hid_eq]
theorem Xs (n : Nat) (t : RT) : (QA n t).view = Qm n t.view := by
 unfold QA Qm
 cases Xr n t.view with
 | true => simp only [cond_true, RT.view, Int.toNat_natCast, List.drop_drop]
 | false => simp only [cond_false, RT.view]
theorem Jk6 (t : RT) : (VU t).view = Jfr t.view := by simp only [VU, Jfr, Xs]
@[simp] theorem QV (n : Nat) (t : RT) : Jt n t = Qe n t.view := by rw [JaU, JdY]
@[simp] theorem J5 (n : Nat) (t : RT) : (Ja n t).view = JK n t.view := by rw [Wg, VS, Xs]
@[simp] theorem JcU (t : RT) : (JX t).view = Jj6 t.view := by rw [Jd0, JiC, Jk6]
@[simp] theorem JcV (t : RT) : JF t = JdZ t.view := by rw [Jfu, JiD]
theorem YP {t : RT} (h : okT t = true) (n : Nat) : okT (QA n t) = true := by
 have h' := h
 simp only [okT, Bool.and_eq_true, decide_eq_true_eq, Nat.ble_eq] at h ⊢
 unfold QA
 cases hk : Xr n t.view with
 | true =>
  simp only [cond_true]
  have hn : n <= (t.B.drop t.P.toNat).length := by
   simp only [Xr, RT.view, Bool.and_eq_true, Nat.ble_eq] at hk; exact hk.2
  rw [List.length_drop] at hn
  refine ⟨by omega, by omega, h.2.2⟩
 | false => exact h
theorem JnH {t : RT} (h : okT t = true) : okT (VU t) = true := YP (YP h _) _
@[simp] theorem Qn {t : RT} (h : okT t = true) (n : Nat) : okT (Ja n t) = true := by rw [Wg]; exact YP h n
@[simp] theorem Jfv {t : RT} (h : okT t = true) : okT (JX t) = true := by rw [Jd0]; exact JnH h
theorem Jk7 {s : RS} (h : s.e ≠ 0) (n : Nat) : Xr n s = false := by
 unfold Xr
 have : (s.e == 0) = false := by simpa using h
 rw [this]; rfl
theorem VV {s : RS} (h : s.e ≠ 0) (n : Nat) : Qm n s = s := by
 unfold Qm
 have : (s.e == 0) = false := by simpa using h
 rw [Jk7 h, cond_false, this, cond_false]
theorem Jj7 {t : RT} (h : t.e ≠ 0) (n : Nat) : QA n t = t := by
 unfold QA
 have : (t.e == 0) = false := by simpa using h
 rw [Jk7 (s := t.view) h, cond_false, this, cond_false]
-- FN (*code.Reader).take

-- FN (*code.Reader).number
theorem JrH (i : Nat) : (256 : Int) ^ i = 2 ^ (8 * i) := by rw [Int.pow_mul]; rfl
theorem Jk8 {v y : Int} {j : Nat} (hj : j <= 64) (hv0 : 0 <= v) (hv : v < 2 ^ j) (hy0 : 0 <= y) (hy : y * 2 ^ j < 2 ^ 64) : JA .or .u64 v (y * 2 ^ j) = v + y * 2 ^ j := by
 obtain ⟨a, rfl⟩ := Int.eq_ofNat_of_zero_le hv0
 obtain ⟨b, rfl⟩ := Int.eq_ofNat_of_zero_le hy0
 have e1 : ((b : Int)) * 2 ^ j = ((b * 2 ^ j : Nat) : Int) := by rw [Int.natCast_mul, Int.natCast_pow]; rfl
 have e2 : ((2 : Int)) ^ j = ((2 ^ j : Nat) : Int) := by rw [Int.natCast_pow]; rfl
 have e3 : ((2 : Int)) ^ 64 = ((2 ^ 64 : Nat) : Int) := by rw [Int.natCast_pow]; rfl
 rw [e2] at hv
 rw [e1, e3] at hy
 have ha : a < 2 ^ j := Int.ofNat_lt.1 hv
 have hb : b * 2 ^ j < 2 ^ 64 := Int.ofNat_lt.1 hy
 rw [e1]
 have hor : a ||| b * 2 ^ j = a + b * 2 ^ j := by
  have h := Nat.shiftLeft_add_eq_or_of_lt ha b
  rw [Nat.shiftLeft_eq] at h
  rw [Nat.or_comm, ← h, Nat.add_comm]
 have ha2 : a < 2 ^ 64 := Nat.lt_of_lt_of_le ha (Nat.pow_le_pow_right (by omega) hj)
 have hsum : a + b * 2 ^ j < 2 ^ 64 := by rw [← hor]; exact Nat.or_lt_two_pow ha2 hb
 generalize hc : b * 2 ^ j = c at *
 have ht : (BitVec.ofInt 64 (a : Int) ||| BitVec.ofInt 64 (c : Int)).toNat = a + c := by
  rw [BitVec.toNat_or, BitVec.ofInt_natCast, BitVec.ofInt_natCast, BitVec.toNat_ofNat, BitVec.toNat_ofNat, Nat.mod_eq_of_lt ha2, Nat.mod_eq_of_lt hb, hor]
 show IntKind.u64.wrap ((BitVec.ofInt 64 (a : Int) ||| BitVec.ofInt 64 (c : Int)).toNat : Int) = _
 rw [ht, We]
 have h64 : (2 : Nat) ^ 64 = 18446744073709551616 := by decide
 rw [h64] at hsum
 omega



-- FN (*code.Reader).Text


-- FN slices.Clone[[]byte,byte]
def slB (z : Bool) (l : List PV) : Bool := (!z || l.isEmpty) && Nat.ble l.length 1000000000
theorem JiE {z : Bool} {l : List PV} : slB z l = true ↔ (z = true -> l = []) /\ l.length <= 1000000000 := by
 simp only [slB, Bool.and_eq_true, Nat.ble_eq, Bool.or_eq_true, Bool.not_eq_true', List.isEmpty_iff]
 cases z <;> simp


def Juv : Fns := F0
theorem JnI : Jy tau Try.prog Juv := JD
def JiF : An := (.seq .leaf (.seq (.seq .leaf (.cond .leaf .leaf)) (.seq (.seq .leaf (.cond (.seq .leaf .leaf) .leaf)) (.seq .leaf (.seq .leaf .leaf)))))
def JnJ (f : Nat) (y0 y1 : Bool) (r_B : List PV) (r_P y2 n : Int) (k : Res -> Option Res) : Option Res := bif y2 == 0 then bif decide (IntKind.i64.wrap (zi r_B.length - r_P) < n) then k (Res.mk (.ro 5 true true []) [.box false 138 (PV.st 138 [.ro 5 y0 y1 r_B, .sc (.int .i64 r_P), .sc (.int .i64 8)])] []) else bif y2 != 0 then k (Res.mk (.ro 5 true true []) [.box false 138 (PV.st 138 [.ro 5 y0 y1 r_B, .sc (.int .i64 r_P), .sc (.int .i64 y2)])] []) else bif decide (0 <= IntKind.i64.wrap (IntKind.i64.wrap (r_P + n) - n)) && decide (0 <= IntKind.i64.wrap (r_P + n)) && decide ((IntKind.i64.wrap (IntKind.i64.wrap (r_P + n) - n)).toNat <= (IntKind.i64.wrap (r_P + n)).toNat) && decide ((IntKind.i64.wrap (r_P + n)).toNat <= r_B.length) && true then k (Res.mk (.ro 5 y0 (y0 || y1 && false) (List.drop (IntKind.i64.wrap (IntKind.i64.wrap (r_P + n) - n)).toNat (List.take (IntKind.i64.wrap (r_P + n)).toNat r_B))) [.box false 138 (PV.st 138 [.ro 5 y0 y1 r_B, .sc (.int .i64 (IntKind.i64.wrap (r_P + n))), .sc (.int .i64 y2)])] []) else none else bif y2 != 0 then k (Res.mk (.ro 5 true true []) [.box false 138 (PV.st 138 [.ro 5 y0 y1 r_B, .sc (.int .i64 r_P), .sc (.int .i64 y2)])] []) else bif decide (0 <= IntKind.i64.wrap (IntKind.i64.wrap (r_P + n) - n)) && decide (0 <= IntKind.i64.wrap (r_P + n)) && decide ((IntKind.i64.wrap (IntKind.i64.wrap (r_P + n) - n)).toNat <= (IntKind.i64.wrap (r_P + n)).toNat) && decide ((IntKind.i64.wrap (r_P + n)).toNat <= r_B.length) && true then k (Res.mk (.ro 5 y0 (y0 || y1 && false) (List.drop (IntKind.i64.wrap (IntKind.i64.wrap (r_P + n) - n)).toNat (List.take (IntKind.i64.wrap (r_P + n)).toNat r_B))) [.box false 138 (PV.st 138 [.ro 5 y0 y1 r_B, .sc (.int .i64 (IntKind.i64.wrap (r_P + n))), .sc (.int .i64 y2)])] []) else none
theorem JyP (f : Nat) (y0 y1 : Bool) (r_B : List PV) (r_P y2 n : Int) (k : Res -> Option Res) : JQ tau Juv Try.f142 (Try.f142.body.get!) JiF [.ro] 0 [.ptr 0 [], .sc (.int .i64 n)] [.box false 138 (.st 138 [.ro 5 y0 y1 r_B, .sc (.int .i64 r_P), .sc (.int .i64 y2)])] k = JnJ f y0 y1 r_B r_P y2 n k := by kernel_rfl
theorem Juw (f : Nat) : Jf (Try.f142.body.get!) JiF = [] := by kernel_rfl
theorem Jux (f : Nat) : ∀ q ∈ Jf (Try.f142.body.get!) JiF, q.Ok tau Try.prog 1 := by
 rw [Juw f]; intro q hq; cases hq
theorem JpT : Try.prog.funcs[142]? = some Try.f142 := by kernel_rfl
theorem JpU : Try.f142.body = some (Try.f142.body.get!) := by kernel_rfl
theorem Jk9 : Enters Try.prog 142 := enters_of JpT (by kernel_rfl) JpU
def Jg5 : List PV -> List Ent -> (Res -> Option Res) -> Option Res
 | [.ptr 0 [], .sc (.int .i64 n)], [.box false 138 (.st 138 [.ro 5 y0 y1 r_B, .sc (.int .i64 r_P), .sc (.int .i64 y2)])], k => JnJ 0 y0 y1 r_B r_P y2 n k
 | _, _, _ => none
def JyQ : Sig := { own := [], run := Jg5 }
theorem Juy : Jg tau Try.prog 142 JyQ := J0 Jp JnI Jq JpT JpU JiF [.ro] 1 [] Jg5 (Jux 0) fun xs es k res hr => by
 unfold Jg5 at hr
 split at hr
 · exact ⟨rfl, 0, (JyP 0 _ _ _ _ _ _  _).trans hr⟩
 · cases hr
-- FN (*ref1.Reader).take
abbrev rfP (z f : Bool) (t : RT) : Ent := .box false 138 (.st 138 [.ro 5 z f t.B, .sc (.int .i64 t.P), .sc (.int .i64 t.e)])
def Jd1 : List PV -> List Ent -> (Res -> Option Res) -> Option Res
 | [.ptr 0 [], .sc (.int .i64 n)], [.box false 138 (.st 138 [.ro 5 z f B, .sc (.int .i64 P), .sc (.int .i64 e)])], k =>
  bif okT ⟨B, P, e⟩ && (decide (0 <= n) && decide (n <= 1000000000)) then k ⟨.ro 5 (!okS n.toNat (RT.view ⟨B, P, e⟩) || z) (!okS n.toNat (RT.view ⟨B, P, e⟩) || z) (QG n.toNat (RT.view ⟨B, P, e⟩)), [rfP z f (Ja n.toNat ⟨B, P, e⟩)], []⟩ else none
 | _, _, _ => none
def JiG : Sig := { own := [], run := Jd1 }
theorem JnK (z f : Bool) (B : List PV) (P e n : Int) (hk : okT ⟨B, P, e⟩ = true) (hn : 0 <= n) (hn2 : n <= 1000000000) (k : Res -> Option Res) :
   JnJ 0 z f B P e n k = k ⟨.ro 5 (!okS n.toNat (RT.view ⟨B, P, e⟩) || z) (!okS n.toNat (RT.view ⟨B, P, e⟩) || z) (QG n.toNat (RT.view ⟨B, P, e⟩)), [rfP z f (Ja n.toNat ⟨B, P, e⟩)], []⟩ := by
 rw [Jk4, JaT, Wg]
 simp only [okT, Bool.and_eq_true, decide_eq_true_eq, Nat.ble_eq] at hk
 obtain ⟨k1, k2, k3, k4⟩ := hk
 have hz2 : (z || f && false) = z := by cases z <;> cases f <;> rfl
 obtain ⟨p, rfl⟩ := Int.eq_ofNat_of_zero_le k1
 obtain ⟨m, rfl⟩ := Int.eq_ofNat_of_zero_le hn
 have w1 : IntKind.i64.wrap (zi B.length - (p : Int)) = ((B.length - p : Nat) : Int) := by simp only [zi]; rw [wrap_i64 (by omega) (by omega)]; omega
 have w2 : IntKind.i64.wrap ((p : Int) + (m : Int)) = ((p + m : Nat) : Int) := by rw [wrap_i64 (by omega) (by omega)]; omega
 have w3 : IntKind.i64.wrap (((p + m : Nat) : Int) - (m : Int)) = (p : Int) := by rw [wrap_i64 (by omega) (by omega)]; omega
 have hdl : (B.drop p).length = B.length - p := List.length_drop
 unfold JnJ
 simp only [w1, w2, w3, Int.toNat_natCast, hz2]
 by_cases c2 : e = 0
 · subst c2
   simp only [beq_self_eq_true, cond_true]
   have h00 : ((0 : Int) != 0) = false := by decide
   by_cases c1 : ((B.length - p : Nat) : Int) < (m : Int)
   · rw [Jc (by simpa using c1)]
     have hb : Nat.ble m (B.length - p) = false := by
      cases h : Nat.ble m (B.length - p) with
      | false => rfl
      | true => rw [Nat.ble_eq] at h; omega
     simp [Xr, Qb, QA, RT.view, hb]
   · have hb : Nat.ble m (B.length - p) = true := by rw [Nat.ble_eq]; omega
     simp only [h00, cond_false]
     rw [Ji (by simpa using c1), Jc (by simp; omega)]
     have hd : List.drop p (List.take (p + m) B) = List.take m (List.drop p B) := by rw [List.drop_take]; congr 1; omega
     rw [hd]
     simp [Xr, Qb, QA, RT.view, hb]
 · have hb : (e == 0) = false := by simpa using c2
   have hb2 : (e != 0) = true := by simpa using c2
   simp only [hb, hb2, cond_true, cond_false]
   simp [Xr, Qb, QA, RT.view, hb]
theorem Jg6 : Jg tau Try.prog 142 JiG := Juy.of fun xs es k res hr => by
 change Jd1 xs es k = some res at hr
 unfold Jd1 at hr
 split at hr
 · obtain ⟨hc, hr⟩ := JE hr
   simp only [Bool.and_eq_true, decide_eq_true_eq] at hc
   exact (JnK _ _ _ _ _ _ hc.1 hc.2.1 hc.2.2 _).trans hr
 · cases hr
def N84 : Nat := 25
def F84 : Fns := JH 142 JiG (F0)
theorem Jla : Jy tau Try.prog F84 := (JD).add Jg6 Jk9
def JcW : Code := Qo (Try.f84.body.get!) [1, 1, 1, 0, 1, 0, 0]
def XO : Nm := [(3, .any), (4, .any), (5, .any)]
def YQ : Nm := [(3, .any)]
def Jfw : An := (.seq (.seq .leaf (.cond .leaf .leaf)) (.seq (.block none .leaf) .leaf))
def JnL (r0 : QE) : An := (.seq .leaf (.seq .leaf (.seq .leaf (.seq (.seq .leaf (.block none (.sum XO N84 r0))) (.seq .leaf .leaf)))))
def VW (f : Nat) (rc : Int -> Bool -> Bool -> List PV -> Int -> Bool -> Bool -> List PV -> Int -> Int -> Option Res) (k0 : Int -> Bool -> Bool -> List PV -> Int -> Int -> Option Res) (v0 : Int) (v1 v2 : Bool) (v3 : List PV) (v4 : Int) (v5 v6 : Bool) (v7 : List PV) (v8 v9 : Int) : Option Res := bif decide (v4 >= 0) then bif decide (0 <= v4) && decide (v4 < zi v3.length) && PV.isInt IntKind.u8 (v3.getD v4.toNat PV.top) && true then rc (JA BinOp.or IntKind.u64 (Xf IntKind.u64 v0 8) (IntKind.u64.wrap (v3.getD v4.toNat PV.top).int)) v1 v2 v3 (IntKind.i64.wrap (v4 - 1)) v5 v6 v7 v8 v9 else none else k0 v0 v5 v6 v7 v8 v9
def Vc (f : Nat) (k0 : Int -> Bool -> Bool -> List PV -> Int -> Int -> Option Res) : Nat -> Int -> Bool -> Bool -> List PV -> Int -> Bool -> Bool -> List PV -> Int -> Int -> Option Res
 | 0, _, _, _, _, _, _, _, _, _, _ => none
 | n + 1, v0, v1, v2, v3, v4, v5, v6, v7, v8, v9 => VW f (Vc f k0 n) k0 v0 v1 v2 v3 v4 v5 v6 v7 v8 v9
theorem JnM (f : Nat) (k : Kont) (n : Nat) (v0 : Int) (v1 v2 : Bool) (v3 : List PV) (v4 : Int) (v5 v6 : Bool) (v7 : List PV) (v8 v9 : Int) : Jl tau 1 XO (fun s k => ev tau F84 1 0 JcW (Jfw ) s k) (n + 1) (Jd XO N84 [.sc (.int .u64 v0), .ro 5 v1 v2 v3, .sc (.int .i64 v4)] [(0, .box false 138 (PV.st 138 [.ro 5 v5 v6 v7, .sc (.int .i64 v8), .sc (.int .i64 v9)]))]) (Jo tau 1 YQ k) = VW f (fun v0 v1 v2 v3 v4 v5 v6 v7 v8 v9 => Jl tau 1 XO (fun s k => ev tau F84 1 0 JcW (Jfw ) s k) n (Jd XO N84 [.sc (.int .u64 v0), .ro 5 v1 v2 v3, .sc (.int .i64 v4)] [(0, .box false 138 (PV.st 138 [.ro 5 v5 v6 v7, .sc (.int .i64 v8), .sc (.int .i64 v9)]))]) (Jo tau 1 YQ k)) (fun x0 x1 x2 x3 x4 x5 => k (Ex.exit 0) (Jd YQ N84 [.sc (.int .u64 x0)] [(0, .box false 138 (PV.st 138 [.ro 5 x1 x2 x3, .sc (.int .i64 x4), .sc (.int .i64 x5)]))])) v0 v1 v2 v3 v4 v5 v6 v7 v8 v9 := by kernel_rfl
theorem JiH (f : Nat) (k : Kont) : ∀ (n : Nat) (v0 : Int) (v1 v2 : Bool) (v3 : List PV) (v4 : Int) (v5 v6 : Bool) (v7 : List PV) (v8 v9 : Int), Jl tau 1 XO (fun s k => ev tau F84 1 0 JcW (Jfw ) s k) n (Jd XO N84 [.sc (.int .u64 v0), .ro 5 v1 v2 v3, .sc (.int .i64 v4)] [(0, .box false 138 (PV.st 138 [.ro 5 v5 v6 v7, .sc (.int .i64 v8), .sc (.int .i64 v9)]))]) (Jo tau 1 YQ k) = Vc f (fun x0 x1 x2 x3 x4 x5 => k (Ex.exit 0) (Jd YQ N84 [.sc (.int .u64 x0)] [(0, .box false 138 (PV.st 138 [.ro 5 x1 x2 x3, .sc (.int .i64 x4), .sc (.int .i64 x5)]))])) n v0 v1 v2 v3 v4 v5 v6 v7 v8 v9 | 0, _, _, _, _, _, _, _, _, _, _ => rfl | n + 1, v0, v1, v2, v3, v4, v5, v6, v7, v8, v9 => (JnM f k n v0 v1 v2 v3 v4 v5 v6 v7 v8 v9).trans (congrArg (fun r => VW f r (fun x0 x1 x2 x3 x4 x5 => k (Ex.exit 0) (Jd YQ N84 [.sc (.int .u64 x0)] [(0, .box false 138 (PV.st 138 [.ro 5 x1 x2 x3, .sc (.int .i64 x4), .sc (.int .i64 x5)]))])) v0 v1 v2 v3 v4 v5 v6 v7 v8 v9) (by funext v0 v1 v2 v3 v4 v5 v6 v7 v8 v9; exact JiH f k n v0 v1 v2 v3 v4 v5 v6 v7 v8 v9))
def JbA (f : Nat) : List PV -> List (Nat × Ent) -> Kont -> Option Res
 | [.sc (.int .u64 v0), .ro 5 v1 v2 v3,
 PV.sc
  (Value.int IntKind.i64
   v4)], [(0,
  Ent.box false 138
   (PV.st 138
    [.ro 5 v5 v6 v7, .sc (.int .i64 v8),
     PV.sc
      (Value.int IntKind.i64
       v9)]))], k => Vc f (fun x0 x1 x2 x3 x4 x5 => k (Ex.exit
 0) (Jd YQ N84 [PV.sc
  (Value.int .u64 x0)] [(0, .box false 138 (PV.st 138 [.ro 5 x1 x2 x3, .sc (.int .i64 x4), .sc (.int .i64 x5)]))])) f v0 v1 v2 v3 v4 v5 v6 v7 v8 v9
 | _, _, _ => none
theorem JrI (f : Nat) : Jf JcW Jfw = [] := by kernel_rfl
theorem Juz (f : Nat) : (Item.l JcW XO N84 (JbA f)).Ok tau Try.prog 1 := Jz Jp Jla Jq (x := Jfw) (nm2 := YQ) (Jm _ _ (by rw [JrI f]; intro q hq; cases hq)) fun vs hp k res hr => by
 unfold JbA at hr
 split at hr
 · exact ⟨f, 0, (JiH f _ f _ _ _ _ _ _ _ _ _ _ ).trans hr⟩
 · cases hr
def g84 (f : Nat) (y0 y1 : Bool) (r_B : List PV) (r_P y2 : Int) (k : Res -> Option Res) : Option Res := bif okT (RT.mk r_B r_P y2) && true then Vc f (fun x0_0 x1_0 x2_0 x3_0 x4_0 x5_0 => k (Res.mk (.sc (.int .i64 (IntKind.i64.wrap x0_0))) [.box false 138 (PV.st 138 [.ro 5 x1_0 x2_0 x3_0, .sc (.int .i64 x4_0), .sc (.int .i64 x5_0)])] [])) f (0) (!okS 8 (RS.mk (List.drop (RT.mk r_B r_P y2).P.toNat (RT.mk r_B r_P y2).B) (RT.mk r_B r_P y2).e) || y0) (!okS 8 (RS.mk (List.drop (RT.mk r_B r_P y2).P.toNat (RT.mk r_B r_P y2).B) (RT.mk r_B r_P y2).e) || y0) (QG 8 (RS.mk (List.drop (RT.mk r_B r_P y2).P.toNat (RT.mk r_B r_P y2).B) (RT.mk r_B r_P y2).e)) (IntKind.i64.wrap (zi (QG 8 (RS.mk (List.drop (RT.mk r_B r_P y2).P.toNat (RT.mk r_B r_P y2).B) (RT.mk r_B r_P y2).e)).length - 1)) y0 y1 ((Ja 8 (RT.mk r_B r_P y2)).B) ((Ja 8 (RT.mk r_B r_P y2)).P) ((Ja 8 (RT.mk r_B r_P y2)).e) else none
theorem e84 (f : Nat) (y0 y1 : Bool) (r_B : List PV) (r_P y2 : Int) (k : Res -> Option Res) : JQ tau F84 Try.f84 (Try.f84.body.get!) (JnL (JbA f)) [.ro] 0 [.ptr 0 []] [.box false 138 (.st 138 [.ro 5 y0 y1 r_B, .sc (.int .i64 r_P), .sc (.int .i64 y2)])] k = g84 f y0 y1 r_B r_P y2 k := by kernel_rfl
theorem JyR (f : Nat) : Jf (Try.f84.body.get!) (JnL (JbA f)) = [.l JcW XO N84 (JbA f)] := by kernel_rfl
theorem JyS (f : Nat) : ∀ q ∈ Jf (Try.f84.body.get!) (JnL (JbA f)), q.Ok tau Try.prog 1 := by
 rw [JyR f]; simp only [List.forall_mem_cons, List.not_mem_nil, false_implies, implies_true, and_true]; exact Juz f
theorem JuA : Try.prog.funcs[84]? = some Try.f84 := by kernel_rfl
theorem JuB : Try.f84.body = some (Try.f84.body.get!) := by kernel_rfl
theorem JrJ : Enters Try.prog 84 := enters_of JuA (by kernel_rfl) JuB
def F83 : Fns := JH 142 JiG (F0)
theorem JrK : Jy tau Try.prog F83 := (JD).add Jg6 Jk9
def JnN : An := (.seq .leaf (.seq .leaf (.seq (.seq .leaf (.cond (.seq .leaf .leaf) .leaf)) (.seq .leaf .leaf))))
def g83 (f : Nat) (y0 y1 : Bool) (r_B : List PV) (r_P y2 : Int) (k : Res -> Option Res) : Option Res := bif okT (RT.mk r_B r_P y2) && true then bif zi (QG 1 (RS.mk (List.drop (RT.mk r_B r_P y2).P.toNat (RT.mk r_B r_P y2).B) (RT.mk r_B r_P y2).e)).length == 0 then k (Res.mk (.sc (.int .i64 0)) [.box false 138 (PV.st 138 [.ro 5 y0 y1 (Ja 1 (RT.mk r_B r_P y2)).B, .sc (.int .i64 (Ja 1 (RT.mk r_B r_P y2)).P), .sc (.int .i64 (Ja 1 (RT.mk r_B r_P y2)).e)])] []) else bif decide (0 < zi (QG 1 (RS.mk (List.drop (RT.mk r_B r_P y2).P.toNat (RT.mk r_B r_P y2).B) (RT.mk r_B r_P y2).e)).length) && PV.isInt IntKind.u8 ((QG 1 (RS.mk (List.drop (RT.mk r_B r_P y2).P.toNat (RT.mk r_B r_P y2).B) (RT.mk r_B r_P y2).e)).getD 0 PV.top) && true then k (Res.mk (.sc (.int .i64 (IntKind.i64.wrap ((QG 1 (RS.mk (List.drop (RT.mk r_B r_P y2).P.toNat (RT.mk r_B r_P y2).B) (RT.mk r_B r_P y2).e)).getD 0 PV.top).int))) [.box false 138 (PV.st 138 [.ro 5 y0 y1 (Ja 1 (RT.mk r_B r_P y2)).B, .sc (.int .i64 (Ja 1 (RT.mk r_B r_P y2)).P), .sc (.int .i64 (Ja 1 (RT.mk r_B r_P y2)).e)])] []) else none else none
theorem e83 (f : Nat) (y0 y1 : Bool) (r_B : List PV) (r_P y2 : Int) (k : Res -> Option Res) : JQ tau F83 Try.f83 (Try.f83.body.get!) JnN [.ro] 0 [.ptr 0 []] [.box false 138 (.st 138 [.ro 5 y0 y1 r_B, .sc (.int .i64 r_P), .sc (.int .i64 y2)])] k = g83 f y0 y1 r_B r_P y2 k := by kernel_rfl
theorem JyT (f : Nat) : Jf (Try.f83.body.get!) JnN = [] := by kernel_rfl
theorem JyU (f : Nat) : ∀ q ∈ Jf (Try.f83.body.get!) JnN, q.Ok tau Try.prog 1 := by
 rw [JyT f]; intro q hq; cases hq
theorem JuC : Try.prog.funcs[83]? = some Try.f83 := by kernel_rfl
theorem JuD : Try.f83.body = some (Try.f83.body.get!) := by kernel_rfl
theorem JrL : Enters Try.prog 83 := enters_of JuC (by kernel_rfl) JuD
def Jlb : List PV -> List Ent -> (Res -> Option Res) -> Option Res
 | [.ptr 0 []], [.box false 138 (.st 138 [.ro 5 y0 y1 r_B, .sc (.int .i64 r_P), .sc (.int .i64 y2)])], k => g83 0 y0 y1 r_B r_P y2 k
 | _, _, _ => none
def s83 : Sig := { own := [], run := Jlb }
theorem JyV : Jg tau Try.prog 83 s83 := J0 Jp JrK Jq JuC JuD JnN [.ro] 1 [] Jlb (JyU 0) fun xs es k res hr => by
 unfold Jlb at hr
 split at hr
 · exact ⟨rfl, 0, (e83 0 _ _ _ _ _  _).trans hr⟩
 · cases hr
def F86 : Fns := JH 142 JiG (F0)
theorem JrM : Jy tau Try.prog F86 := (JD).add Jg6 Jk9
def JnO : An := (.seq .leaf (.seq .leaf (.seq (.seq .leaf (.cond (.seq .leaf .leaf) .leaf)) (.seq .leaf .leaf))))
def g86 (f : Nat) (y0 y1 : Bool) (r_B : List PV) (r_P y2 : Int) (k : Res -> Option Res) : Option Res := bif okT (RT.mk r_B r_P y2) && true then bif zi (QG 2 (RS.mk (List.drop (RT.mk r_B r_P y2).P.toNat (RT.mk r_B r_P y2).B) (RT.mk r_B r_P y2).e)).length == 0 then k (Res.mk (.sc (.string (ByteArray.mk (Array.mk [])))) [.box false 138 (PV.st 138 [.ro 5 y0 y1 (Ja 2 (RT.mk r_B r_P y2)).B, .sc (.int .i64 (Ja 2 (RT.mk r_B r_P y2)).P), .sc (.int .i64 (Ja 2 (RT.mk r_B r_P y2)).e)])] []) else bif decide (0 < zi (QG 2 (RS.mk (List.drop (RT.mk r_B r_P y2).P.toNat (RT.mk r_B r_P y2).B) (RT.mk r_B r_P y2).e)).length) && PV.isInt IntKind.u8 ((QG 2 (RS.mk (List.drop (RT.mk r_B r_P y2).P.toNat (RT.mk r_B r_P y2).B) (RT.mk r_B r_P y2).e)).getD 0 PV.top) && true then bif decide (1 < zi (QG 2 (RS.mk (List.drop (RT.mk r_B r_P y2).P.toNat (RT.mk r_B r_P y2).B) (RT.mk r_B r_P y2).e)).length) && PV.isInt IntKind.u8 ((QG 2 (RS.mk (List.drop (RT.mk r_B r_P y2).P.toNat (RT.mk r_B r_P y2).B) (RT.mk r_B r_P y2).e)).getD 1 PV.top) && true then bif okT (Ja 2 (RT.mk r_B r_P y2)) && (decide (0 <= IntKind.i64.wrap (IntKind.i64.wrap ((QG 2 (RS.mk (List.drop (RT.mk r_B r_P y2).P.toNat (RT.mk r_B r_P y2).B) (RT.mk r_B r_P y2).e)).getD 0 PV.top).int + IntKind.i64.wrap (256 * IntKind.i64.wrap ((QG 2 (RS.mk (List.drop (RT.mk r_B r_P y2).P.toNat (RT.mk r_B r_P y2).B) (RT.mk r_B r_P y2).e)).getD 1 PV.top).int))) && decide (IntKind.i64.wrap (IntKind.i64.wrap ((QG 2 (RS.mk (List.drop (RT.mk r_B r_P y2).P.toNat (RT.mk r_B r_P y2).B) (RT.mk r_B r_P y2).e)).getD 0 PV.top).int + IntKind.i64.wrap (256 * IntKind.i64.wrap ((QG 2 (RS.mk (List.drop (RT.mk r_B r_P y2).P.toNat (RT.mk r_B r_P y2).B) (RT.mk r_B r_P y2).e)).getD 1 PV.top).int)) <= 1000000000)) then bif Jj IntKind.u8 (QG (IntKind.i64.wrap (IntKind.i64.wrap ((QG 2 (RS.mk (List.drop (RT.mk r_B r_P y2).P.toNat (RT.mk r_B r_P y2).B) (RT.mk r_B r_P y2).e)).getD 0 PV.top).int + IntKind.i64.wrap (256 * IntKind.i64.wrap ((QG 2 (RS.mk (List.drop (RT.mk r_B r_P y2).P.toNat (RT.mk r_B r_P y2).B) (RT.mk r_B r_P y2).e)).getD 1 PV.top).int))).toNat (RS.mk (List.drop (RT.mk (Ja 2 (RT.mk r_B r_P y2)).B (Ja 2 (RT.mk r_B r_P y2)).P (Ja 2 (RT.mk r_B r_P y2)).e).P.toNat (RT.mk (Ja 2 (RT.mk r_B r_P y2)).B (Ja 2 (RT.mk r_B r_P y2)).P (Ja 2 (RT.mk r_B r_P y2)).e).B) (RT.mk (Ja 2 (RT.mk r_B r_P y2)).B (Ja 2 (RT.mk r_B r_P y2)).P (Ja 2 (RT.mk r_B r_P y2)).e).e)) && true then k (Res.mk (.sc (.string (ByteArray.mk (Array.mk (JC (!okS (IntKind.i64.wrap (IntKind.i64.wrap ((QG 2 (RS.mk (List.drop (RT.mk r_B r_P y2).P.toNat (RT.mk r_B r_P y2).B) (RT.mk r_B r_P y2).e)).getD 0 PV.top).int + IntKind.i64.wrap (256 * IntKind.i64.wrap ((QG 2 (RS.mk (List.drop (RT.mk r_B r_P y2).P.toNat (RT.mk r_B r_P y2).B) (RT.mk r_B r_P y2).e)).getD 1 PV.top).int))).toNat (RT.mk (Ja 2 (RT.mk r_B r_P y2)).B (Ja 2 (RT.mk r_B r_P y2)).P (Ja 2 (RT.mk r_B r_P y2)).e).view || y0, QG (IntKind.i64.wrap (IntKind.i64.wrap ((QG 2 (RS.mk (List.drop (RT.mk r_B r_P y2).P.toNat (RT.mk r_B r_P y2).B) (RT.mk r_B r_P y2).e)).getD 0 PV.top).int + IntKind.i64.wrap (256 * IntKind.i64.wrap ((QG 2 (RS.mk (List.drop (RT.mk r_B r_P y2).P.toNat (RT.mk r_B r_P y2).B) (RT.mk r_B r_P y2).e)).getD 1 PV.top).int))).toNat (RS.mk (List.drop (RT.mk (Ja 2 (RT.mk r_B r_P y2)).B (Ja 2 (RT.mk r_B r_P y2)).P (Ja 2 (RT.mk r_B r_P y2)).e).P.toNat (RT.mk (Ja 2 (RT.mk r_B r_P y2)).B (Ja 2 (RT.mk r_B r_P y2)).P (Ja 2 (RT.mk r_B r_P y2)).e).B) (RT.mk (Ja 2 (RT.mk r_B r_P y2)).B (Ja 2 (RT.mk r_B r_P y2)).P (Ja 2 (RT.mk r_B r_P y2)).e).e)).snd))))) [.box false 138 (PV.st 138 [.ro 5 y0 y1 (Ja (IntKind.i64.wrap (IntKind.i64.wrap ((QG 2 (RS.mk (List.drop (RT.mk r_B r_P y2).P.toNat (RT.mk r_B r_P y2).B) (RT.mk r_B r_P y2).e)).getD 0 PV.top).int + IntKind.i64.wrap (256 * IntKind.i64.wrap ((QG 2 (RS.mk (List.drop (RT.mk r_B r_P y2).P.toNat (RT.mk r_B r_P y2).B) (RT.mk r_B r_P y2).e)).getD 1 PV.top).int))).toNat (Ja 2 (RT.mk r_B r_P y2))).B, .sc (.int .i64 (Ja (IntKind.i64.wrap (IntKind.i64.wrap ((QG 2 (RS.mk (List.drop (RT.mk r_B r_P y2).P.toNat (RT.mk r_B r_P y2).B) (RT.mk r_B r_P y2).e)).getD 0 PV.top).int + IntKind.i64.wrap (256 * IntKind.i64.wrap ((QG 2 (RS.mk (List.drop (RT.mk r_B r_P y2).P.toNat (RT.mk r_B r_P y2).B) (RT.mk r_B r_P y2).e)).getD 1 PV.top).int))).toNat (Ja 2 (RT.mk r_B r_P y2))).P), .sc (.int .i64 (Ja (IntKind.i64.wrap (IntKind.i64.wrap ((QG 2 (RS.mk (List.drop (RT.mk r_B r_P y2).P.toNat (RT.mk r_B r_P y2).B) (RT.mk r_B r_P y2).e)).getD 0 PV.top).int + IntKind.i64.wrap (256 * IntKind.i64.wrap ((QG 2 (RS.mk (List.drop (RT.mk r_B r_P y2).P.toNat (RT.mk r_B r_P y2).B) (RT.mk r_B r_P y2).e)).getD 1 PV.top).int))).toNat (Ja 2 (RT.mk r_B r_P y2))).e)])] []) else none else none else none else none else none
theorem e86 (f : Nat) (y0 y1 : Bool) (r_B : List PV) (r_P y2 : Int) (k : Res -> Option Res) : JQ tau F86 Try.f86 (Try.f86.body.get!) JnO [.ro] 0 [.ptr 0 []] [.box false 138 (.st 138 [.ro 5 y0 y1 r_B, .sc (.int .i64 r_P), .sc (.int .i64 y2)])] k = g86 f y0 y1 r_B r_P y2 k := by kernel_rfl
theorem JyW (f : Nat) : Jf (Try.f86.body.get!) JnO = [] := by kernel_rfl
theorem JyX (f : Nat) : ∀ q ∈ Jf (Try.f86.body.get!) JnO, q.Ok tau Try.prog 1 := by
 rw [JyW f]; intro q hq; cases hq
theorem JuE : Try.prog.funcs[86]? = some Try.f86 := by kernel_rfl
theorem JuF : Try.f86.body = some (Try.f86.body.get!) := by kernel_rfl
theorem JuG : Enters Try.prog 86 := enters_of JuE (by kernel_rfl) JuF
def Jlc : List PV -> List Ent -> (Res -> Option Res) -> Option Res
 | [.ptr 0 []], [.box false 138 (.st 138 [.ro 5 y0 y1 r_B, .sc (.int .i64 r_P), .sc (.int .i64 y2)])], k => g86 0 y0 y1 r_B r_P y2 k
 | _, _, _ => none
def s86 : Sig := { own := [], run := Jlc }
theorem JyY : Jg tau Try.prog 86 s86 := J0 Jp JrM Jq JuE JuF JnO [.ro] 1 [] Jlc (JyX 0) fun xs es k res hr => by
 unfold Jlc at hr
 split at hr
 · exact ⟨rfl, 0, (e86 0 _ _ _ _ _  _).trans hr⟩
 · cases hr
-- FN (*ref1.Reader).Int | (*ref1.Reader).Byte | (*ref1.Reader).Text
theorem Jcl (k : IntKind) (x y : Int) : JA .or k x y = JA .or k y x := by simp only [JA]; rw [BitVec.or_comm]
theorem JpV (L : List Int) (hL : ∀ x ∈ L, 0 <= x /\ x < 256) (h8 : L.length <= 8) (f : Nat) (k0 : Int -> Bool -> Bool -> List PV -> Int -> Int -> Option Res) (a b c d : Bool) (R : List PV) (P e : Int) : ∀ (i n : Nat), i <= L.length -> i < n ->
  Vc f k0 n (Yt (L.drop i)) a b (pu .u8 L) ((i : Int) - 1) c d R P e = k0 (Yt L) c d R P e
 | 0, n + 1, h, hn => by
   simp only [Vc, VW, List.drop_zero]
   exact Ji (by decide)
 | i + 1, n + 1, h, hn => by
   have g0 : ((i + 1 : Nat) : Int) - 1 = (i : Int) := by omega
   have g1 : ((i : Int)).toNat = i := by omega
   have h1 : IntKind.i64.wrap ((i : Int) - 1) = (i : Int) - 1 := wrap_i64 (by omega) (by omega)
   have hi : i < L.length := by omega
   have hx := hL (L.getD i 0) (by rw [List.getD_eq_getElem?_getD, List.getElem?_eq_getElem hi]; exact List.getElem_mem hi)
   rw [g0]
   simp only [Vc, VW, g1, h1]
   rw [J2 hi, Qw hi]
   refine (Jc (by simp)).trans ((Jc (by simp [zi]; omega)).trans ?_)
   have hd : L.drop i = L.getD i 0 :: L.drop (i + 1) := by
    rw [List.drop_eq_getElem_cons hi, List.getD_eq_getElem?_getD, List.getElem?_eq_getElem hi]; rfl
   have hb := YO (L.drop (i + 1)) fun x hx => hL x (List.mem_of_mem_drop hx)
   have hp : (256 : Int) ^ (L.drop (i + 1)).length <= 2 ^ 56 := by
    rw [JrH]
    have h : (2 ^ (8 * (L.drop (i + 1)).length) : Nat) <= 2 ^ 56 := Nat.pow_le_pow_right (by omega) (by rw [List.length_drop]; omega)
    have e2 : ((2 : Int)) ^ (8 * (L.drop (i + 1)).length) = ((2 ^ (8 * (L.drop (i + 1)).length) : Nat) : Int) := by rw [Int.natCast_pow]; rfl
    have e3 : ((2 : Int)) ^ 56 = ((2 ^ 56 : Nat) : Int) := by rw [Int.natCast_pow]; rfl
    rw [e2, e3]; exact Int.ofNat_le.2 h
   have h56 : (2 : Int) ^ 56 = 72057594037927936 := by decide
   rw [h56] at hp
   have hsh : Xf .u64 (Yt (L.drop (i + 1))) 8 = Yt (L.drop (i + 1)) * 2 ^ 8 := by
    rw [Xf, We]
    have : min (8 : Int).toNat IntKind.u64.bits = 8 := by decide
    rw [this]
    have h8 : (2 : Int) ^ 8 = 256 := by decide
    rw [h8]; omega
   have hw : IntKind.u64.wrap (L.getD i 0) = L.getD i 0 := by rw [We]; omega
   have h8 : (2 : Int) ^ 8 = 256 := by decide
   have h64 : (2 : Int) ^ 64 = 18446744073709551616 := by decide
   rw [hsh, hw, Jcl, Jk8 (by omega) hx.1 (by rw [h8]; exact hx.2) hb.1 (by rw [h8, h64]; omega)]
   have hn1 : L.getD i 0 + Yt (L.drop (i + 1)) * 2 ^ 8 = Yt (L.drop i) := by rw [hd, Yt, h8]; omega
   rw [hn1]
   exact JpV L hL (by assumption) f k0 a b c d R P e i n (by omega) (by omega)
def Jg7 : List PV -> List Ent -> (Res -> Option Res) -> Option Res
 | [.ptr 0 []], [.box false 138 (.st 138 [.ro 5 z f B, .sc (.int .i64 P), .sc (.int .i64 e)])], k =>
  bif okT ⟨B, P, e⟩ then k ⟨.sc (.int .i64 (Jt 8 ⟨B, P, e⟩)), [rfP z f (Ja 8 ⟨B, P, e⟩)], []⟩ else none
 | _, _, _ => none
def JnP : Sig := { own := [], run := Jg7 }
theorem VX {t : RT} (h : okT t = true) : byB t.view.b = true := by
 simp only [okT, Bool.and_eq_true] at h
 exact Jfs h.2.2.1 _
theorem JnQ (B : List PV) (P e : Int) : RS.mk (List.drop (RT.mk B P e).P.toNat (RT.mk B P e).B) (RT.mk B P e).e = RT.view ⟨B, P, e⟩ := rfl
theorem Jld : Jg tau Try.prog 84 JnP := Jg.mk' fun xs es k res hl hr => by
 change Jg7 xs es k = some res at hr
 unfold Jg7 at hr
 split at hr
 · rename_i z f B P e
   obtain ⟨hc, hr⟩ := JE hr
   have hg : g84 20 z f B P e k = some res := by
    unfold g84
    have hb := VX hc
    have ho := Wt.1 (VT (s := RT.view ⟨B, P, e⟩) hb 8)
    have hl8 : (Jw (Qb 8 (RT.view ⟨B, P, e⟩))).length <= 8 := by rw [Wd]; exact WP _ _
    have hw : IntKind.i64.wrap (zi (Qb 8 (RT.view ⟨B, P, e⟩)).length - 1) = ((Qb 8 (RT.view ⟨B, P, e⟩)).length : Int) - 1 := by
     have := WP 8 (RT.view ⟨B, P, e⟩)
     simp only [zi]; rw [wrap_i64 (by omega) (by omega)]
    rw [Jc (by rw [hc]; rfl), JnQ, JaT, hw]
    have hL := JpV (Jw (Qb 8 (RT.view ⟨B, P, e⟩))) ho.2 hl8 20 (fun x0_0 x1_0 x2_0 x3_0 x4_0 x5_0 => k (Res.mk (.sc (.int .i64 (IntKind.i64.wrap x0_0))) [.box false 138 (.st 138 [.ro 5 x1_0 x2_0 x3_0, .sc (.int .i64 x4_0), .sc (.int .i64 x5_0)])] [])) (!okS 8 (RT.view ⟨B, P, e⟩) || z) (!okS 8 (RT.view ⟨B, P, e⟩) || z) z f (Ja 8 ⟨B, P, e⟩).B (Ja 8 ⟨B, P, e⟩).P (Ja 8 ⟨B, P, e⟩).e (Jw (Qb 8 (RT.view ⟨B, P, e⟩))).length 20 (by omega) (by omega)
    rw [← Qp ho.1, List.drop_length, Wd] at hL
    simp only [Yt] at hL
    refine hL.trans ?_
    rw [JaU] at hr
    exact hr
   exact Qr Jp Jla Jq JuA JuB (JnL (JbA 20)) [.ro] 1 0 (JyS 20) hl rfl ((e84 20 z f B P e k).trans hg)
 · cases hr
def Jg8 : List PV -> List Ent -> (Res -> Option Res) -> Option Res
 | [.ptr 0 []], [.box false 138 (.st 138 [.ro 5 z f B, .sc (.int .i64 P), .sc (.int .i64 e)])], k =>
  bif okT ⟨B, P, e⟩ then k ⟨.sc (.int .i64 (Jt 1 ⟨B, P, e⟩)), [rfP z f (Ja 1 ⟨B, P, e⟩)], []⟩ else none
 | _, _, _ => none
def JnR : Sig := { own := [], run := Jg8 }
theorem Jle : Jg tau Try.prog 83 JnR := JyV.of fun xs es k res hr => by
 change Jg8 xs es k = some res at hr
 unfold Jg8 at hr
 split at hr
 · rename_i z f B P e
   obtain ⟨hc, hr⟩ := JE hr
   show g83 0 z f B P e k = some res
   unfold g83
   have hb := VX hc
   have hv : RT.view ⟨B, P, e⟩ = ⟨List.drop P.toNat B, e⟩ := rfl
   rw [hv] at hb
   have ho := Wt.1 (VT hb 1)
   have hl := WP 1 ⟨List.drop P.toNat B, e⟩
   rw [JaU, Wf, hv] at hr
   simp only [JaT]
   rw [Jc (by rw [hc]; rfl)]
   generalize Qb 1 ⟨List.drop P.toNat B, e⟩ = O at *
   match O, hl with
   | [], _ => exact hr
   | [p], _ =>
    have h1 : p.isInt .u8 = true := by simpa [Jj] using ho.1
    have h2 := ho.2 p.int (by simp [Jw])
    refine (Ji rfl).trans ((Jc (by simp [zi, h1])).trans ?_)
    have : Yt (Jw [p]) = p.int := by simp [Jw, Yt]
    rw [this] at hr
    exact hr
 · cases hr
def Jg9 : List PV -> List Ent -> (Res -> Option Res) -> Option Res
 | [.ptr 0 []], [.box false 138 (.st 138 [.ro 5 z f B, .sc (.int .i64 P), .sc (.int .i64 e)])], k =>
  bif okT ⟨B, P, e⟩ then k ⟨.sc (.string (JF ⟨B, P, e⟩)), [rfP z f (JX ⟨B, P, e⟩)], []⟩ else none
 | _, _, _ => none
def JrN : Sig := { own := [], run := Jg9 }
theorem JpW : Jg tau Try.prog 86 JrN := JyY.of fun xs es k res hr => by
 change Jg9 xs es k = some res at hr
 unfold Jg9 at hr
 split at hr
 · rename_i z f B P e
   obtain ⟨hc, hr⟩ := JE hr
   show g86 0 z f B P e k = some res
   unfold g86
   have hb := VX hc
   have hv : RT.view ⟨B, P, e⟩ = ⟨List.drop P.toNat B, e⟩ := rfl
   rw [hv] at hb
   rw [Jfu, Jd0] at hr
   have hk2 : okT (Ja 2 ⟨B, P, e⟩) = true := Qn hc 2
   have hv2 : ∀ t : RT, RS.mk (List.drop t.P.toNat t.B) t.e = t.view := fun t => rfl
   have hst : (QA 2 ⟨B, P, e⟩).view = Qm 2 ⟨List.drop P.toNat B, e⟩ := Xs 2 ⟨B, P, e⟩
   rw [Jc (by rw [hc]; rfl)]
   simp only [JaT, Jk4]
   cases hk : Xr 2 ⟨List.drop P.toNat B, e⟩ with
   | false =>
    have hO : Qb 2 ⟨List.drop P.toNat B, e⟩ = [] := by unfold Qb; rw [hk]; rfl
    have hN : Wf 2 ⟨List.drop P.toNat B, e⟩ = 0 := by unfold Wf; rw [hO]; rfl
    have he : (Qm 2 ⟨List.drop P.toNat B, e⟩).e ≠ 0 := by
      unfold Qm; rw [hk]
      by_cases h0 : e = 0
      · subst h0; show (8 : Int) ≠ 0; decide
      · have : (e == 0) = false := by simpa using h0
        simp only [cond_false, this]; exact h0
    have hnk : Xr 0 (Qm 2 ⟨List.drop P.toNat B, e⟩) = false := by
      unfold Xr
      have : ((Qm 2 ⟨List.drop P.toNat B, e⟩).e == 0) = false := by simpa using he
      rw [this]; rfl
    have h1 : Jaq (RT.view ⟨B, P, e⟩) = ByteArray.mk (Array.mk []) := by
      rw [hv]; unfold Jaq; rw [hN]
      have : Qb (0 : Int).toNat (Qm 2 ⟨List.drop P.toNat B, e⟩) = [] := by
        show Qb 0 _ = []
        unfold Qb; rw [hnk]; rfl
      rw [this]; rfl
    have h2 : VU ⟨B, P, e⟩ = QA 2 ⟨B, P, e⟩ := by
      unfold VU; rw [hv, hN]
      rw [← hst] at he
      exact Jj7 he _
    rw [h1, h2] at hr
    rw [hO]
    refine (Jc rfl).trans ?_
    rw [Wg]
    exact hr
   | true =>
    have hO : Qb 2 ⟨List.drop P.toNat B, e⟩ = List.take 2 (List.drop P.toNat B) := by unfold Qb; rw [hk]; rfl
    have hlen : 2 <= (List.drop P.toNat B).length := by
      simp only [Xr, Bool.and_eq_true, Nat.ble_eq] at hk; exact hk.2
    obtain ⟨p, q, hpq⟩ : ∃ p q, Qb 2 ⟨List.drop P.toNat B, e⟩ = [p, q] := by
      rw [hO]
      match h : List.drop P.toNat B, hlen with
      | p :: q :: r, _ => exact ⟨p, q, rfl⟩
    have ho := Wt.1 (VT hb 2)
    rw [hpq] at ho
    have hp1 : p.isInt .u8 = true /\ q.isInt .u8 = true := by simpa [Jj] using ho.1
    have hp2 := ho.2 p.int (by simp [Jw])
    have hq2 := ho.2 q.int (by simp [Jw])
    have hw : IntKind.i64.wrap (IntKind.i64.wrap p.int + IntKind.i64.wrap (256 * IntKind.i64.wrap q.int)) = p.int + 256 * q.int := by
      rw [wrap_i64 (x := p.int) (by omega) (by omega), wrap_i64 (x := q.int) (by omega) (by omega), wrap_i64 (x := 256 * q.int) (by omega) (by omega), wrap_i64 (by omega) (by omega)]
    have hN : Wf 2 ⟨List.drop P.toNat B, e⟩ = p.int + 256 * q.int := by
      unfold Wf; rw [hpq]
      show IntKind.i64.wrap (Yt [p.int, q.int]) = _
      simp only [Yt]
      rw [wrap_i64 (by omega) (by omega)]; omega
    have g0 : ([p, q] : List PV).getD 0 PV.top = p := rfl
    have g1 : ([p, q] : List PV).getD 1 PV.top = q := rfl
    simp only [hpq, g0, g1, hw]
    refine (Ji rfl).trans ((Jc (by simp [zi, hp1.1])).trans ((Jc (by simp [zi, hp1.2])).trans ((Jc ?_).trans ?_)))
    · rw [hk2]; simp; omega
    have h1 : Jaq (RT.view ⟨B, P, e⟩) = ⟨(JC (Qb (p.int + 256 * q.int).toNat (Ja 2 ⟨B, P, e⟩).view)).toArray⟩ := by
      rw [hv]; unfold Jaq; rw [hN, Wg, hst]
    have h2 : VU ⟨B, P, e⟩ = Ja (p.int + 256 * q.int).toNat (Ja 2 ⟨B, P, e⟩) := by
      unfold VU; rw [hv, hN, Wg, Wg]
    have hbo : Jj .u8 (Qb (p.int + 256 * q.int).toNat (Ja 2 ⟨B, P, e⟩).view) = true := (Wt.1 (VT (VX hk2) _)).1
    rw [h1, h2] at hr
    refine (Jc (by rw [Bool.and_true]; exact hbo)).trans ?_
    exact hr
 · cases hr
def N87 : Nat := 16
def F87 : Fns := JH 83 JnR (F0)
theorem Jlf : Jy tau Try.prog F87 := (JD).add Jle JrL
def JcX : Code := Qo (Try.f87.body.get!) [1, 1, 0, 1, 0, 0]
def XP : Nm := [(0, .any), (2, .any), (3, .any), (4, .any)]
def YR : Nm := [(2, .any), (3, .any)]
def Jfx : An := (.seq (.seq .leaf (.cond .leaf .leaf)) (.seq (.block none .leaf) .leaf))
def JnS (r0 : QE) : An := (.seq .leaf (.seq .leaf (.seq (.seq .leaf (.block none (.sum XP N87 r0))) (.seq .leaf .leaf))))
def VY (f : Nat) (rc : Int -> Bool -> Bool -> List PV -> Int -> Int -> List PV -> List PV -> Option Res) (k0 : Bool -> Bool -> List PV -> Int -> Int -> List PV -> List PV -> Option Res) (v0 : Int) (v1 v2 : Bool) (v3 : List PV) (v4 v5 : Int) (v6 v7 : List PV) : Option Res := bif decide (v0 < 32) then bif okT (RT.mk v3 v4 v5) then bif decide (0 <= v0) && decide (v0 < zi 32) && true then rc (IntKind.i64.wrap (v0 + 1)) v1 v2 ((Ja 1 (RT.mk v3 v4 v5)).B) ((Ja 1 (RT.mk v3 v4 v5)).P) ((Ja 1 (RT.mk v3 v4 v5)).e) v6 (v7.set v0.toNat (.sc (.int .u8 (IntKind.u8.wrap (Jt 1 (RT.mk v3 v4 v5)))))) else none else none else k0 v1 v2 v3 v4 v5 v6 v7
def Vd (f : Nat) (k0 : Bool -> Bool -> List PV -> Int -> Int -> List PV -> List PV -> Option Res) : Nat -> Int -> Bool -> Bool -> List PV -> Int -> Int -> List PV -> List PV -> Option Res
 | 0, _, _, _, _, _, _, _, _ => none
 | n + 1, v0, v1, v2, v3, v4, v5, v6, v7 => VY f (Vd f k0 n) k0 v0 v1 v2 v3 v4 v5 v6 v7
theorem JnT (f : Nat) (k : Kont) (n : Nat) (v0 : Int) (v1 v2 : Bool) (v3 : List PV) (v4 v5 : Int) (v6 v7 : List PV) : Jl tau 1 XP (fun s k => ev tau F87 1 0 JcX (Jfx ) s k) (n + 1) (Jd XP N87 [.ptr 0 [], .ptr 273 [], .ptr 274 [], .sc (.int .i64 v0)] [(0, .box false 138 (PV.st 138 [.ro 5 v1 v2 v3, .sc (.int .i64 v4), .sc (.int .i64 v5)])), (273, .box false 37 (PV.ar 37 v6)), (274, .box false 37 (PV.ar 37 v7))]) (Jo tau 1 YR k) = VY f (fun v0 v1 v2 v3 v4 v5 v6 v7 => Jl tau 1 XP (fun s k => ev tau F87 1 0 JcX (Jfx ) s k) n (Jd XP N87 [.ptr 0 [], .ptr 273 [], .ptr 274 [], .sc (.int .i64 v0)] [(0, .box false 138 (PV.st 138 [.ro 5 v1 v2 v3, .sc (.int .i64 v4), .sc (.int .i64 v5)])), (273, .box false 37 (PV.ar 37 v6)), (274, .box false 37 (PV.ar 37 v7))]) (Jo tau 1 YR k)) (fun x0 x1 x2 x3 x4 x5 x6 => k (Ex.exit 0) (Jd YR N87 [.ptr 273 [], .ptr 274 []] [(0, .box false 138 (PV.st 138 [.ro 5 x0 x1 x2, .sc (.int .i64 x3), .sc (.int .i64 x4)])), (273, .box false 37 (PV.ar 37 x5)), (274, .box false 37 (PV.ar 37 x6))])) v0 v1 v2 v3 v4 v5 v6 v7 := by kernel_rfl
theorem JiI (f : Nat) (k : Kont) : ∀ (n : Nat) (v0 : Int) (v1 v2 : Bool) (v3 : List PV) (v4 v5 : Int) (v6 v7 : List PV), Jl tau 1 XP (fun s k => ev tau F87 1 0 JcX (Jfx ) s k) n (Jd XP N87 [.ptr 0 [], .ptr 273 [], .ptr 274 [], .sc (.int .i64 v0)] [(0, .box false 138 (PV.st 138 [.ro 5 v1 v2 v3, .sc (.int .i64 v4), .sc (.int .i64 v5)])), (273, .box false 37 (PV.ar 37 v6)), (274, .box false 37 (PV.ar 37 v7))]) (Jo tau 1 YR k) = Vd f (fun x0 x1 x2 x3 x4 x5 x6 => k (Ex.exit 0) (Jd YR N87 [.ptr 273 [], .ptr 274 []] [(0, .box false 138 (PV.st 138 [.ro 5 x0 x1 x2, .sc (.int .i64 x3), .sc (.int .i64 x4)])), (273, .box false 37 (PV.ar 37 x5)), (274, .box false 37 (PV.ar 37 x6))])) n v0 v1 v2 v3 v4 v5 v6 v7 | 0, _, _, _, _, _, _, _, _ => rfl | n + 1, v0, v1, v2, v3, v4, v5, v6, v7 => (JnT f k n v0 v1 v2 v3 v4 v5 v6 v7).trans (congrArg (fun r => VY f r (fun x0 x1 x2 x3 x4 x5 x6 => k (Ex.exit 0) (Jd YR N87 [.ptr 273 [], .ptr 274 []] [(0, .box false 138 (PV.st 138 [.ro 5 x0 x1 x2, .sc (.int .i64 x3), .sc (.int .i64 x4)])), (273, .box false 37 (PV.ar 37 x5)), (274, .box false 37 (PV.ar 37 x6))])) v0 v1 v2 v3 v4 v5 v6 v7) (by funext v0 v1 v2 v3 v4 v5 v6 v7; exact JiI f k n v0 v1 v2 v3 v4 v5 v6 v7))
def JbB (f : Nat) : List PV -> List (Nat × Ent) -> Kont -> Option Res
 | [.ptr 0 [], .ptr 273 [], .ptr 274 [],
 PV.sc
  (Value.int IntKind.i64
   v0)], [(0, .box false 138 (PV.st 138 [.ro 5 v1 v2 v3, .sc (.int .i64 v4), .sc (.int .i64 v5)])), (273, .box false 37 (PV.ar 37 v6)),
 (274,
  Ent.box false 37
   (PV.ar 37
    v7))], k => Vd f (fun x0 x1 x2 x3 x4 x5 x6 => k (Ex.exit
 0) (Jd YR N87 [.ptr 273 [],
 PV.ptr 274
  []] [(0, .box false 138 (PV.st 138 [.ro 5 x0 x1 x2, .sc (.int .i64 x3), .sc (.int .i64 x4)])), (273, .box false 37 (PV.ar 37 x5)),
 (274, .box false 37 (PV.ar 37 x6))])) f v0 v1 v2 v3 v4 v5 v6 v7
 | _, _, _ => none
theorem JrO (f : Nat) : Jf JcX Jfx = [] := by kernel_rfl
theorem JuH (f : Nat) : (Item.l JcX XP N87 (JbB f)).Ok tau Try.prog 1 := Jz Jp Jlf Jq (x := Jfx) (nm2 := YR) (Jm _ _ (by rw [JrO f]; intro q hq; cases hq)) fun vs hp k res hr => by
 unfold JbB at hr
 split at hr
 · exact ⟨f, 0, (JiI f _ f _ _ _ _ _ _ _ _ ).trans hr⟩
 · cases hr
def g87 (f : Nat) (y0 y1 : Bool) (r_B : List PV) (r_P y2 : Int) (k : Res -> Option Res) : Option Res := Vd f (fun x0_0 x1_0 x2_0 x3_0 x4_0 x5_0 x6_0 => k (Res.mk (.ar 37 x6_0) [.box false 138 (PV.st 138 [.ro 5 x0_0 x1_0 x2_0, .sc (.int .i64 x3_0), .sc (.int .i64 x4_0)])] [])) f (0) y0 y1 r_B r_P y2 ([.sc (.int .u8 0), .sc (.int .u8 0), .sc (.int .u8 0), .sc (.int .u8 0), .sc (.int .u8 0), .sc (.int .u8 0), .sc (.int .u8 0), .sc (.int .u8 0), .sc (.int .u8 0), .sc (.int .u8 0), .sc (.int .u8 0), .sc (.int .u8 0), .sc (.int .u8 0), .sc (.int .u8 0), .sc (.int .u8 0), .sc (.int .u8 0), .sc (.int .u8 0), .sc (.int .u8 0), .sc (.int .u8 0), .sc (.int .u8 0), .sc (.int .u8 0), .sc (.int .u8 0), .sc (.int .u8 0), .sc (.int .u8 0), .sc (.int .u8 0), .sc (.int .u8 0), .sc (.int .u8 0), .sc (.int .u8 0), .sc (.int .u8 0), .sc (.int .u8 0), .sc (.int .u8 0), .sc (.int .u8 0)]) ([.sc (.int .u8 0), .sc (.int .u8 0), .sc (.int .u8 0), .sc (.int .u8 0), .sc (.int .u8 0), .sc (.int .u8 0), .sc (.int .u8 0), .sc (.int .u8 0), .sc (.int .u8 0), .sc (.int .u8 0), .sc (.int .u8 0), .sc (.int .u8 0), .sc (.int .u8 0), .sc (.int .u8 0), .sc (.int .u8 0), .sc (.int .u8 0), .sc (.int .u8 0), .sc (.int .u8 0), .sc (.int .u8 0), .sc (.int .u8 0), .sc (.int .u8 0), .sc (.int .u8 0), .sc (.int .u8 0), .sc (.int .u8 0), .sc (.int .u8 0), .sc (.int .u8 0), .sc (.int .u8 0), .sc (.int .u8 0), .sc (.int .u8 0), .sc (.int .u8 0), .sc (.int .u8 0), .sc (.int .u8 0)])
theorem e87 (f : Nat) (y0 y1 : Bool) (r_B : List PV) (r_P y2 : Int) (k : Res -> Option Res) : JQ tau F87 Try.f87 (Try.f87.body.get!) (JnS (JbB f)) [.ro] 0 [.ptr 0 []] [.box false 138 (.st 138 [.ro 5 y0 y1 r_B, .sc (.int .i64 r_P), .sc (.int .i64 y2)])] k = g87 f y0 y1 r_B r_P y2 k := by kernel_rfl
theorem JyZ (f : Nat) : Jf (Try.f87.body.get!) (JnS (JbB f)) = [.l JcX XP N87 (JbB f)] := by kernel_rfl
theorem Jy0 (f : Nat) : ∀ q ∈ Jf (Try.f87.body.get!) (JnS (JbB f)), q.Ok tau Try.prog 1 := by
 rw [JyZ f]; simp only [List.forall_mem_cons, List.not_mem_nil, false_implies, implies_true, and_true]; exact JuH f
theorem JuI : Try.prog.funcs[87]? = some Try.f87 := by kernel_rfl
theorem JuJ : Try.f87.body = some (Try.f87.body.get!) := by kernel_rfl
theorem Jy1 : Enters Try.prog 87 := enters_of JuI (by kernel_rfl) JuJ
def JuK : Fns := F0
theorem JnU : Jy tau Try.prog JuK := JD
def JiJ : An := (.seq .leaf (.seq .leaf (.seq .leaf .leaf)))
def JuL (f : Nat) (x k1 : Int) (k : Res -> Option Res) : Option Res := bif decide (0 <= IntKind.u64.wrap (32 - JA BinOp.and IntKind.u64 (IntKind.u64.wrap k1) 31)) && true then k (Res.mk (.sc (.int .u32 (JA BinOp.or IntKind.u32 (Xf IntKind.u32 x (JA BinOp.and IntKind.u64 (IntKind.u64.wrap k1) 31)) (JL IntKind.u32 x (IntKind.u64.wrap (32 - JA BinOp.and IntKind.u64 (IntKind.u64.wrap k1) 31)))))) [] []) else none
theorem Jy2 (f : Nat) (x k1 : Int) (k : Res -> Option Res) : JQ tau JuK Try.f149 (Try.f149.body.get!) JiJ [.ro] 0 [.sc (.int .u32 x), .sc (.int .i64 k1)] [] k = JuL f x k1 k := by kernel_rfl
theorem JuM (f : Nat) : Jf (Try.f149.body.get!) JiJ = [] := by kernel_rfl
theorem JuN (f : Nat) : ∀ q ∈ Jf (Try.f149.body.get!) JiJ, q.Ok tau Try.prog 0 := by
 rw [JuM f]; intro q hq; cases hq
theorem JpX : Try.prog.funcs[149]? = some Try.f149 := by kernel_rfl
theorem JpY : Try.f149.body = some (Try.f149.body.get!) := by kernel_rfl
theorem JuO : Enters Try.prog 149 := enters_of JpX (by kernel_rfl) JpY
def Jha : List PV -> List Ent -> (Res -> Option Res) -> Option Res
 | [.sc (.int .u32 x), .sc (.int .i64 k1)], [], k => JuL 0 x k1 k
 | _, _, _ => none
def JuP : Sig := { own := [], run := Jha }
theorem JuQ : Jg tau Try.prog 149 JuP := J0 Jp JnU Jq JpX JpY JiJ [.ro] 0 [] Jha (JuN 0) fun xs es k res hr => by
 unfold Jha at hr
 split at hr
 · exact ⟨rfl, 0, (Jy2 0 _ _  _).trans hr⟩
 · cases hr
def JuR : Fns := JH 149 JuP (F0)
theorem JnV : Jy tau Try.prog JuR := (JD).add JuQ JuO
def JiK : An := (.seq .leaf (.seq .leaf .leaf))
def JnW (f : Nat) (x n : Int) (k : Res -> Option Res) : Option Res := bif decide (0 <= IntKind.u64.wrap (32 - JA BinOp.and IntKind.u64 (IntKind.u64.wrap (IntKind.i64.wrap (0 - n))) 31)) && true then k (Res.mk (.sc (.int .u32 (JA BinOp.or IntKind.u32 (Xf IntKind.u32 x (JA BinOp.and IntKind.u64 (IntKind.u64.wrap (IntKind.i64.wrap (0 - n))) 31)) (JL IntKind.u32 x (IntKind.u64.wrap (32 - JA BinOp.and IntKind.u64 (IntKind.u64.wrap (IntKind.i64.wrap (0 - n))) 31)))))) [] []) else none
theorem Jy3 (f : Nat) (x n : Int) (k : Res -> Option Res) : JQ tau JuR Try.f124 (Try.f124.body.get!) JiK [.ro] 0 [.sc (.int .u32 x), .sc (.int .i64 n)] [] k = JnW f x n k := by kernel_rfl
theorem JuS (f : Nat) : Jf (Try.f124.body.get!) JiK = [] := by kernel_rfl
theorem JuT (f : Nat) : ∀ q ∈ Jf (Try.f124.body.get!) JiK, q.Ok tau Try.prog 0 := by
 rw [JuS f]; intro q hq; cases hq
theorem JpZ : Try.prog.funcs[124]? = some Try.f124 := by kernel_rfl
theorem Jp0 : Try.f124.body = some (Try.f124.body.get!) := by kernel_rfl
theorem Jp1 : Enters Try.prog 124 := enters_of JpZ (by kernel_rfl) Jp0
def Jhb : List PV -> List Ent -> (Res -> Option Res) -> Option Res
 | [.sc (.int .u32 x), .sc (.int .i64 n)], [], k => JnW 0 x n k
 | _, _, _ => none
def Jy4 : Sig := { own := [], run := Jhb }
theorem JuU : Jg tau Try.prog 124 Jy4 := J0 Jp JnV Jq JpZ Jp0 JiK [.ro] 0 [] Jhb (JuT 0) fun xs es k res hr => by
 unfold Jhb at hr
 split at hr
 · exact ⟨rfl, 0, (Jy3 0 _ _  _).trans hr⟩
 · cases hr
def F73 : Fns := F0
theorem JrP : Jy tau Try.prog F73 := JD
def JnX : An := (.seq .leaf (.seq .leaf .leaf))
def g73 (f : Nat) (x n : Int) (k : Res -> Option Res) : Option Res := bif decide (0 <= n) && true then bif decide (0 <= IntKind.u64.wrap (32 - n)) && true then k (Res.mk (.sc (.int .u32 (JA BinOp.or IntKind.u32 (JL IntKind.u32 x n) (Xf IntKind.u32 x (IntKind.u64.wrap (32 - n)))))) [] []) else none else none
theorem e73 (f : Nat) (x n : Int) (k : Res -> Option Res) : JQ tau F73 Try.f73 (Try.f73.body.get!) JnX [.ro] 0 [.sc (.int .u32 x), .sc (.int .u64 n)] [] k = g73 f x n k := by kernel_rfl
theorem Jy5 (f : Nat) : Jf (Try.f73.body.get!) JnX = [] := by kernel_rfl
theorem Jy6 (f : Nat) : ∀ q ∈ Jf (Try.f73.body.get!) JnX, q.Ok tau Try.prog 0 := by
 rw [Jy5 f]; intro q hq; cases hq
theorem JuV : Try.prog.funcs[73]? = some Try.f73 := by kernel_rfl
theorem JuW : Try.f73.body = some (Try.f73.body.get!) := by kernel_rfl
theorem Jy7 : Enters Try.prog 73 := enters_of JuV (by kernel_rfl) JuW
def Jlg : List PV -> List Ent -> (Res -> Option Res) -> Option Res
 | [.sc (.int .u32 x), .sc (.int .u64 n)], [], k => g73 0 x n k
 | _, _, _ => none
def s73 : Sig := { own := [], run := Jlg }
theorem Jy8 : Jg tau Try.prog 73 s73 := J0 Jp JrP Jq JuV JuW JnX [.ro] 0 [] Jlg (Jy6 0) fun xs es k res hr => by
 unfold Jlg at hr
 split at hr
 · exact ⟨rfl, 0, (e73 0 _ _  _).trans hr⟩
 · cases hr
-- FN sha.right | ref2.rot
def rr (x n : Int) : Int := JA .or .u32 (Xf .u32 x (32 - n)) (JL .u32 x n)
theorem Jd2 (x y : Int) : JA .or .u32 x y = JA .or .u32 y x := by
 simp only [JA]; rw [BitVec.or_comm]
theorem Jlh {P : Int -> Prop} (h : ∀ m : Nat, m < 31 -> P ((m : Int) + 1)) (n : Int) (h1 : 1 <= n) (h2 : n <= 31) : P n := by
 have := h (n - 1).toNat (by omega)
 have he : (((n - 1).toNat : Nat) : Int) + 1 = n := by omega
 rwa [he] at this
def Jd3 : List PV -> List Ent -> (Res -> Option Res) -> Option Res
 | [.sc (.int .u32 x), .sc (.int .i64 n)], [], k => bif decide (1 <= n) && decide (n <= 31) then k ⟨.sc (.int .u32 (rr x n)), [], []⟩ else none
 | _, _, _ => none
def Jli : Sig := { own := [], run := Jd3 }
theorem Jhc (x : Int) (k : Res -> Option Res) (n : Int) (h1 : 1 <= n) (h2 : n <= 31) : JnW 0 x n k = k ⟨.sc (.int .u32 (rr x n)), [], []⟩ := by
 refine Jlh (P := fun n => JnW 0 x n k = k ⟨.sc (.int .u32 (rr x n)), [], []⟩) ?_ n h1 h2
 intro m hm
 iterate 31 (rcases m with _ | m; · kernel_rfl)
 omega
theorem Jlj : Jg tau Try.prog 124 Jli := JuU.of fun xs es k res hr => by
 change Jd3 xs es k = some res at hr
 unfold Jd3 at hr
 split at hr
 · obtain ⟨hc, hr⟩ := JE hr
   simp only [Bool.and_eq_true, decide_eq_true_eq] at hc
   exact (Jhc _ _ _ hc.1 hc.2).trans hr
 · cases hr
def Jhd : List PV -> List Ent -> (Res -> Option Res) -> Option Res
 | [.sc (.int .u32 x), .sc (.int .u64 n)], [], k => bif decide (1 <= n) && decide (n <= 31) then k ⟨.sc (.int .u32 (rr x n)), [], []⟩ else none
 | _, _, _ => none
def JuX : Sig := { own := [], run := Jhd }
theorem Jj8 (x : Int) (k : Res -> Option Res) (n : Int) (h1 : 1 <= n) (h2 : n <= 31) : g73 0 x n k = k ⟨.sc (.int .u32 (rr x n)), [], []⟩ := by
 have hc : ∀ n, rr x n = JA .or .u32 (JL .u32 x n) (Xf .u32 x (32 - n)) := fun n => Jd2 _ _
 rw [hc]
 refine Jlh (P := fun n => g73 0 x n k = k ⟨.sc (.int .u32 (JA .or .u32 (JL .u32 x n) (Xf .u32 x (32 - n)))), [], []⟩) ?_ n h1 h2
 intro m hm
 iterate 31 (rcases m with _ | m; · kernel_rfl)
 omega
theorem JuY : Jg tau Try.prog 73 JuX := Jy8.of fun xs es k res hr => by
 change Jhd xs es k = some res at hr
 unfold Jhd at hr
 split at hr
 · obtain ⟨hc, hr⟩ := JE hr
   simp only [Bool.and_eq_true, decide_eq_true_eq] at hc
   exact (Jj8 _ _ _ hc.1 hc.2).trans hr
 · cases hr
def Xt : Nat := 89
def Jfy : Fns := JH 124 Jli (F0)
theorem Jd4 : Jy tau Try.prog Jfy := (JD).add Jlj Jp1
def GQ : Code := Qo (Try.f122.body.get!) [1, 1, 0, 1, 0, 0]
def Wu : Nm := [(0, .any), (2, .any), (3, .any), (8, .any)]
def W2 : Nm := [(2, .any), (3, .any)]
def JbC : An := (.seq .leaf (.seq (.cond .leaf .leaf) (.seq (.block none (.seq .leaf .leaf)) .leaf)))
def GR : Code := Qo (Try.f122.body.get!) [1, 1, 1, 0, 1, 0, 0]
def Wv : Nm := [(2, .any), (3, .any), (5, .any)]
def W3 : Nm := [(2, .any), (3, .any)]
def JbD : An := (.seq (.seq .leaf (.cond .leaf .leaf)) (.seq (.block none (.seq .leaf .leaf)) .leaf))
def Jlk (r0 : QE) (r1 : QE) : An := (.seq .leaf (.seq .leaf (.seq (.seq .leaf (.block none (.sum Wu Xt r0))) (.seq (.seq .leaf (.block none (.sum Wv Xt r1))) (.seq .leaf .leaf)))))
def YS (f : Nat) (rc : Bool -> Bool -> List PV -> Int -> List PV -> List PV -> Option Res) (k0 : List PV -> List PV -> Option Res) (v0 v1 : Bool) (v2 : List PV) (v3 : Int) (v4 v5 : List PV) : Option Res := bif decide (v3 < 16) then bif decide (0 <= IntKind.i64.wrap (4 * v3)) && decide (IntKind.i64.wrap (4 * v3) < zi v2.length) && PV.isInt IntKind.u8 (v2.getD (IntKind.i64.wrap (4 * v3)).toNat PV.top) && true then bif decide (0 <= IntKind.i64.wrap (IntKind.i64.wrap (4 * v3) + 1)) && decide (IntKind.i64.wrap (IntKind.i64.wrap (4 * v3) + 1) < zi v2.length) && PV.isInt IntKind.u8 (v2.getD (IntKind.i64.wrap (IntKind.i64.wrap (4 * v3) + 1)).toNat PV.top) && true then bif decide (0 <= IntKind.i64.wrap (IntKind.i64.wrap (4 * v3) + 2)) && decide (IntKind.i64.wrap (IntKind.i64.wrap (4 * v3) + 2) < zi v2.length) && PV.isInt IntKind.u8 (v2.getD (IntKind.i64.wrap (IntKind.i64.wrap (4 * v3) + 2)).toNat PV.top) && true then bif decide (0 <= IntKind.i64.wrap (IntKind.i64.wrap (4 * v3) + 3)) && decide (IntKind.i64.wrap (IntKind.i64.wrap (4 * v3) + 3) < zi v2.length) && PV.isInt IntKind.u8 (v2.getD (IntKind.i64.wrap (IntKind.i64.wrap (4 * v3) + 3)).toNat PV.top) && true then bif decide (0 <= v3) && decide (v3 < zi 64) && true then rc v0 v1 v2 (IntKind.i64.wrap (v3 + 1)) v4 (v5.set v3.toNat (.sc (.int .u32 (JA BinOp.or IntKind.u32 (JA BinOp.or IntKind.u32 (JA BinOp.or IntKind.u32 (Xf IntKind.u32 (IntKind.u32.wrap (v2.getD (IntKind.i64.wrap (4 * v3)).toNat PV.top).int) 24) (Xf IntKind.u32 (IntKind.u32.wrap (v2.getD (IntKind.i64.wrap (IntKind.i64.wrap (4 * v3) + 1)).toNat PV.top).int) 16)) (Xf IntKind.u32 (IntKind.u32.wrap (v2.getD (IntKind.i64.wrap (IntKind.i64.wrap (4 * v3) + 2)).toNat PV.top).int) 8)) (IntKind.u32.wrap (v2.getD (IntKind.i64.wrap (IntKind.i64.wrap (4 * v3) + 3)).toNat PV.top).int))))) else none else none else none else none else none else k0 v4 v5
def W4 (f : Nat) (k0 : List PV -> List PV -> Option Res) : Nat -> Bool -> Bool -> List PV -> Int -> List PV -> List PV -> Option Res
 | 0, _, _, _, _, _, _ => none
 | n + 1, v0, v1, v2, v3, v4, v5 => YS f (W4 f k0 n) k0 v0 v1 v2 v3 v4 v5
theorem Jll (f : Nat) (k : Kont) (n : Nat) (v0 v1 : Bool) (v2 : List PV) (v3 : Int) (v4 v5 : List PV) : Jl tau 0 Wu (fun s k => ev tau Jfy 0 0 GQ (JbC ) s k) (n + 1) (Jd Wu Xt [.ro 5 v0 v1 v2, .ptr 1440 [], .ptr 1441 [], .sc (.int .i64 v3)] [(1440, .box false 118 (PV.ar 118 v4)), (1441, .box false 118 (PV.ar 118 v5))]) (Jo tau 0 W2 k) = YS f (fun v0 v1 v2 v3 v4 v5 => Jl tau 0 Wu (fun s k => ev tau Jfy 0 0 GQ (JbC ) s k) n (Jd Wu Xt [.ro 5 v0 v1 v2, .ptr 1440 [], .ptr 1441 [], .sc (.int .i64 v3)] [(1440, .box false 118 (PV.ar 118 v4)), (1441, .box false 118 (PV.ar 118 v5))]) (Jo tau 0 W2 k)) (fun x0 x1 => k (Ex.exit 0) (Jd W2 Xt [.ptr 1440 [], .ptr 1441 []] [(1440, .box false 118 (PV.ar 118 x0)), (1441, .box false 118 (PV.ar 118 x1))])) v0 v1 v2 v3 v4 v5 := by kernel_rfl
theorem Jfz (f : Nat) (k : Kont) : ∀ (n : Nat) (v0 v1 : Bool) (v2 : List PV) (v3 : Int) (v4 v5 : List PV), Jl tau 0 Wu (fun s k => ev tau Jfy 0 0 GQ (JbC ) s k) n (Jd Wu Xt [.ro 5 v0 v1 v2, .ptr 1440 [], .ptr 1441 [], .sc (.int .i64 v3)] [(1440, .box false 118 (PV.ar 118 v4)), (1441, .box false 118 (PV.ar 118 v5))]) (Jo tau 0 W2 k) = W4 f (fun x0 x1 => k (Ex.exit 0) (Jd W2 Xt [.ptr 1440 [], .ptr 1441 []] [(1440, .box false 118 (PV.ar 118 x0)), (1441, .box false 118 (PV.ar 118 x1))])) n v0 v1 v2 v3 v4 v5 | 0, _, _, _, _, _, _ => rfl | n + 1, v0, v1, v2, v3, v4, v5 => (Jll f k n v0 v1 v2 v3 v4 v5).trans (congrArg (fun r => YS f r (fun x0 x1 => k (Ex.exit 0) (Jd W2 Xt [.ptr 1440 [], .ptr 1441 []] [(1440, .box false 118 (PV.ar 118 x0)), (1441, .box false 118 (PV.ar 118 x1))])) v0 v1 v2 v3 v4 v5) (by funext v0 v1 v2 v3 v4 v5; exact Jfz f k n v0 v1 v2 v3 v4 v5))
def GS (f : Nat) : List PV -> List (Nat × Ent) -> Kont -> Option Res
 | [.ro 5 v0 v1 v2, .ptr 1440 [], .ptr 1441 [],
 PV.sc
  (Value.int IntKind.i64
   v3)], [(1440, .box false 118 (PV.ar 118 v4)),
 (1441,
  Ent.box false 118
   (PV.ar 118
    v5))], k => W4 f (fun x0 x1 => k (Ex.exit
 0) (Jd W2 Xt [.ptr 1440 [], .ptr 1441 []] [(1440, .box false 118 (PV.ar 118 x0)), (1441, .box false 118 (PV.ar 118 x1))])) f v0 v1 v2 v3 v4 v5
 | _, _, _ => none
theorem JnY (f : Nat) : Jf GQ JbC = [] := by kernel_rfl
theorem JrQ (f : Nat) : (Item.l GQ Wu Xt (GS f)).Ok tau Try.prog 0 := Jz Jp Jd4 Jq (x := JbC) (nm2 := W2) (Jm _ _ (by rw [JnY f]; intro q hq; cases hq)) fun vs hp k res hr => by
 unfold GS at hr
 split at hr
 · exact ⟨f, 0, (Jfz f _ f _ _ _ _ _ _ ).trans hr⟩
 · cases hr
def YT (f : Nat) (rc : Int -> List PV -> List PV -> Option Res) (k0 : List PV -> List PV -> Option Res) (v0 : Int) (v1 v2 : List PV) : Option Res := bif decide (v0 < 64) then bif decide (0 <= IntKind.i64.wrap (v0 - 15)) && decide (IntKind.i64.wrap (v0 - 15) < zi 64) && true then bif PV.isInt IntKind.u32 (Jb (PV.ar 118 v2) [(IntKind.i64.wrap (v0 - 15)).toNat]) && true then bif decide (0 <= IntKind.i64.wrap (v0 - 2)) && decide (IntKind.i64.wrap (v0 - 2) < zi 64) && true then bif PV.isInt IntKind.u32 (Jb (PV.ar 118 v2) [(IntKind.i64.wrap (v0 - 2)).toNat]) && true then bif decide (0 <= IntKind.i64.wrap (v0 - 16)) && decide (IntKind.i64.wrap (v0 - 16) < zi 64) && true then bif PV.isInt IntKind.u32 (Jb (PV.ar 118 v2) [(IntKind.i64.wrap (v0 - 16)).toNat]) && true then bif decide (0 <= IntKind.i64.wrap (v0 - 7)) && decide (IntKind.i64.wrap (v0 - 7) < zi 64) && true then bif PV.isInt IntKind.u32 (Jb (PV.ar 118 v2) [(IntKind.i64.wrap (v0 - 7)).toNat]) && true then bif decide (0 <= v0) && decide (v0 < zi 64) && true then rc (IntKind.i64.wrap (v0 + 1)) v1 (v2.set v0.toNat (.sc (.int .u32 (IntKind.u32.wrap (IntKind.u32.wrap (IntKind.u32.wrap ((Jb (PV.ar 118 v2) [(IntKind.i64.wrap (v0 - 16)).toNat]).int + JA BinOp.xor IntKind.u32 (JA BinOp.xor IntKind.u32 (rr (Jb (PV.ar 118 v2) [(IntKind.i64.wrap (v0 - 15)).toNat]).int 7) (rr (Jb (PV.ar 118 v2) [(IntKind.i64.wrap (v0 - 15)).toNat]).int 18)) (JL IntKind.u32 (Jb (PV.ar 118 v2) [(IntKind.i64.wrap (v0 - 15)).toNat]).int 3)) + (Jb (PV.ar 118 v2) [(IntKind.i64.wrap (v0 - 7)).toNat]).int) + JA BinOp.xor IntKind.u32 (JA BinOp.xor IntKind.u32 (rr (Jb (PV.ar 118 v2) [(IntKind.i64.wrap (v0 - 2)).toNat]).int 17) (rr (Jb (PV.ar 118 v2) [(IntKind.i64.wrap (v0 - 2)).toNat]).int 19)) (JL IntKind.u32 (Jb (PV.ar 118 v2) [(IntKind.i64.wrap (v0 - 2)).toNat]).int 10)))))) else none else none else none else none else none else none else none else none else none else k0 v1 v2
def W5 (f : Nat) (k0 : List PV -> List PV -> Option Res) : Nat -> Int -> List PV -> List PV -> Option Res
 | 0, _, _, _ => none
 | n + 1, v0, v1, v2 => YT f (W5 f k0 n) k0 v0 v1 v2
theorem Jlm (f : Nat) (k : Kont) (n : Nat) (v0 : Int) (v1 v2 : List PV) : Jl tau 0 Wv (fun s k => ev tau Jfy 0 0 GR (JbD ) s k) (n + 1) (Jd Wv Xt [.ptr 1440 [], .ptr 1441 [], .sc (.int .i64 v0)] [(1440, .box false 118 (PV.ar 118 v1)), (1441, .box false 118 (PV.ar 118 v2))]) (Jo tau 0 W3 k) = YT f (fun v0 v1 v2 => Jl tau 0 Wv (fun s k => ev tau Jfy 0 0 GR (JbD ) s k) n (Jd Wv Xt [.ptr 1440 [], .ptr 1441 [], .sc (.int .i64 v0)] [(1440, .box false 118 (PV.ar 118 v1)), (1441, .box false 118 (PV.ar 118 v2))]) (Jo tau 0 W3 k)) (fun x0 x1 => k (Ex.exit 2) (Jd W3 Xt [.ptr 1440 [], .ptr 1441 []] [(1440, .box false 118 (PV.ar 118 x0)), (1441, .box false 118 (PV.ar 118 x1))])) v0 v1 v2 := by kernel_rfl
theorem JfA (f : Nat) (k : Kont) : ∀ (n : Nat) (v0 : Int) (v1 v2 : List PV), Jl tau 0 Wv (fun s k => ev tau Jfy 0 0 GR (JbD ) s k) n (Jd Wv Xt [.ptr 1440 [], .ptr 1441 [], .sc (.int .i64 v0)] [(1440, .box false 118 (PV.ar 118 v1)), (1441, .box false 118 (PV.ar 118 v2))]) (Jo tau 0 W3 k) = W5 f (fun x0 x1 => k (Ex.exit 2) (Jd W3 Xt [.ptr 1440 [], .ptr 1441 []] [(1440, .box false 118 (PV.ar 118 x0)), (1441, .box false 118 (PV.ar 118 x1))])) n v0 v1 v2 | 0, _, _, _ => rfl | n + 1, v0, v1, v2 => (Jlm f k n v0 v1 v2).trans (congrArg (fun r => YT f r (fun x0 x1 => k (Ex.exit 2) (Jd W3 Xt [.ptr 1440 [], .ptr 1441 []] [(1440, .box false 118 (PV.ar 118 x0)), (1441, .box false 118 (PV.ar 118 x1))])) v0 v1 v2) (by funext v0 v1 v2; exact JfA f k n v0 v1 v2))
def GT (f : Nat) : List PV -> List (Nat × Ent) -> Kont -> Option Res
 | [.ptr 1440 [], .ptr 1441 [],
 PV.sc
  (Value.int IntKind.i64
   v0)], [(1440, .box false 118 (PV.ar 118 v1)),
 (1441,
  Ent.box false 118
   (PV.ar 118
    v2))], k => W5 f (fun x0 x1 => k (Ex.exit
 2) (Jd W3 Xt [.ptr 1440 [], .ptr 1441 []] [(1440, .box false 118 (PV.ar 118 x0)), (1441, .box false 118 (PV.ar 118 x1))])) f v0 v1 v2
 | _, _, _ => none
theorem JnZ (f : Nat) : Jf GR JbD = [] := by kernel_rfl
theorem JrR (f : Nat) : (Item.l GR Wv Xt (GT f)).Ok tau Try.prog 0 := Jz Jp Jd4 Jq (x := JbD) (nm2 := W3) (Jm _ _ (by rw [JnZ f]; intro q hq; cases hq)) fun vs hp k res hr => by
 unfold GT at hr
 split at hr
 · exact ⟨f, 0, (JfA f _ f _ _ _ ).trans hr⟩
 · cases hr
def JuZ (f : Nat) (b_z b_f : Bool) (b : List PV) (k : Res -> Option Res) : Option Res := W4 f (fun x0_0 x1_0 => W5 f (fun x0_1 x1_1 => k (Res.mk (.ar 118 x1_1) [] [])) f (16) x0_0 x1_0) f b_z b_f b (0) ([.sc (.int .u32 0), .sc (.int .u32 0), .sc (.int .u32 0), .sc (.int .u32 0), .sc (.int .u32 0), .sc (.int .u32 0), .sc (.int .u32 0), .sc (.int .u32 0), .sc (.int .u32 0), .sc (.int .u32 0), .sc (.int .u32 0), .sc (.int .u32 0), .sc (.int .u32 0), .sc (.int .u32 0), .sc (.int .u32 0), .sc (.int .u32 0), .sc (.int .u32 0), .sc (.int .u32 0), .sc (.int .u32 0), .sc (.int .u32 0), .sc (.int .u32 0), .sc (.int .u32 0), .sc (.int .u32 0), .sc (.int .u32 0), .sc (.int .u32 0), .sc (.int .u32 0), .sc (.int .u32 0), .sc (.int .u32 0), .sc (.int .u32 0), .sc (.int .u32 0), .sc (.int .u32 0), .sc (.int .u32 0), .sc (.int .u32 0), .sc (.int .u32 0), .sc (.int .u32 0), .sc (.int .u32 0), .sc (.int .u32 0), .sc (.int .u32 0), .sc (.int .u32 0), .sc (.int .u32 0), .sc (.int .u32 0), .sc (.int .u32 0), .sc (.int .u32 0), .sc (.int .u32 0), .sc (.int .u32 0), .sc (.int .u32 0), .sc (.int .u32 0), .sc (.int .u32 0), .sc (.int .u32 0), .sc (.int .u32 0), .sc (.int .u32 0), .sc (.int .u32 0), .sc (.int .u32 0), .sc (.int .u32 0), .sc (.int .u32 0), .sc (.int .u32 0), .sc (.int .u32 0), .sc (.int .u32 0), .sc (.int .u32 0), .sc (.int .u32 0), .sc (.int .u32 0), .sc (.int .u32 0), .sc (.int .u32 0), .sc (.int .u32 0)]) ([.sc (.int .u32 0), .sc (.int .u32 0), .sc (.int .u32 0), .sc (.int .u32 0), .sc (.int .u32 0), .sc (.int .u32 0), .sc (.int .u32 0), .sc (.int .u32 0), .sc (.int .u32 0), .sc (.int .u32 0), .sc (.int .u32 0), .sc (.int .u32 0), .sc (.int .u32 0), .sc (.int .u32 0), .sc (.int .u32 0), .sc (.int .u32 0), .sc (.int .u32 0), .sc (.int .u32 0), .sc (.int .u32 0), .sc (.int .u32 0), .sc (.int .u32 0), .sc (.int .u32 0), .sc (.int .u32 0), .sc (.int .u32 0), .sc (.int .u32 0), .sc (.int .u32 0), .sc (.int .u32 0), .sc (.int .u32 0), .sc (.int .u32 0), .sc (.int .u32 0), .sc (.int .u32 0), .sc (.int .u32 0), .sc (.int .u32 0), .sc (.int .u32 0), .sc (.int .u32 0), .sc (.int .u32 0), .sc (.int .u32 0), .sc (.int .u32 0), .sc (.int .u32 0), .sc (.int .u32 0), .sc (.int .u32 0), .sc (.int .u32 0), .sc (.int .u32 0), .sc (.int .u32 0), .sc (.int .u32 0), .sc (.int .u32 0), .sc (.int .u32 0), .sc (.int .u32 0), .sc (.int .u32 0), .sc (.int .u32 0), .sc (.int .u32 0), .sc (.int .u32 0), .sc (.int .u32 0), .sc (.int .u32 0), .sc (.int .u32 0), .sc (.int .u32 0), .sc (.int .u32 0), .sc (.int .u32 0), .sc (.int .u32 0), .sc (.int .u32 0), .sc (.int .u32 0), .sc (.int .u32 0), .sc (.int .u32 0), .sc (.int .u32 0)])
theorem Jy9 (f : Nat) (b_z b_f : Bool) (b : List PV) (k : Res -> Option Res) : JQ tau Jfy Try.f122 (Try.f122.body.get!) (Jlk (GS f) (GT f)) [] 0 [.ro 5 b_z b_f b] [] k = JuZ f b_z b_f b k := by kernel_rfl
theorem Ju0 (f : Nat) : Jf (Try.f122.body.get!) (Jlk (GS f) (GT f)) = [.l GQ Wu Xt (GS f), .l GR Wv Xt (GT f)] := by kernel_rfl
theorem Ju1 (f : Nat) : ∀ q ∈ Jf (Try.f122.body.get!) (Jlk (GS f) (GT f)), q.Ok tau Try.prog 0 := by
 rw [Ju0 f]; simp only [List.forall_mem_cons, List.not_mem_nil, false_implies, implies_true, and_true]; exact ⟨JrQ f, JrR f⟩
theorem Jp2 : Try.prog.funcs[122]? = some Try.f122 := by kernel_rfl
theorem Jp3 : Try.f122.body = some (Try.f122.body.get!) := by kernel_rfl
theorem Ju2 : Enters Try.prog 122 := enters_of Jp2 (by kernel_rfl) Jp3
-- FN sha.spread
abbrev ww (x : Int) : Int := IntKind.u32.wrap x
def Ju3 (a b c d : Int) : Int := JA .or .u32 (JA .or .u32 (JA .or .u32 (Xf .u32 (ww a) 24) (Xf .u32 (ww b) 16)) (Xf .u32 (ww c) 8)) (ww d)
def sg0 (x : Int) : Int := JA .xor .u32 (JA .xor .u32 (rr x 7) (rr x 18)) (JL .u32 x 3)
def sg1 (x : Int) : Int := JA .xor .u32 (JA .xor .u32 (rr x 17) (rr x 19)) (JL .u32 x 10)
def JrS (w16 w15 w7 w2 : Int) : Int := ww (ww (ww (w16 + sg0 w15) + w7) + sg1 w2)
def Jd5 (bs : List Int) (j : Nat) : Int := Ju3 (bs.getD (4 * j) 0) (bs.getD (4 * j + 1) 0) (bs.getD (4 * j + 2) 0) (bs.getD (4 * j + 3) 0)
def QB (bs : List Int) : Nat -> List Int
 | 0 => (List.range 16).map (Jd5 bs)
 | i + 1 => QB bs i ++ [JrS ((QB bs i).getD i 0) ((QB bs i).getD (i + 1) 0) ((QB bs i).getD (i + 9) 0) ((QB bs i).getD (i + 14) 0)]
def J8 (bs : List Int) : List Int := QB bs 48
theorem J3 (bs : List Int) : ∀ i, (QB bs i).length = 16 + i
 | 0 => by simp [QB]
 | i + 1 => by simp [QB, J3 bs i]; omega
def JbE (bs : List Int) (i : Nat) : List Int := (List.range i).map (Jd5 bs) ++ List.replicate (64 - i) 0
def Jar (bs : List Int) (i : Nat) : List Int := QB bs i ++ List.replicate (48 - i) 0
theorem Jd6 (bs : List Int) (i : Nat) (h : i <= 48) : (Jar bs i).length = 64 := by simp [Jar, J3]; omega
theorem JfB (L : List Int) (m : Nat) (x : Int) : (L ++ List.replicate (m + 1) 0).set L.length x = (L ++ [x]) ++ List.replicate m 0 := by
 simp [List.replicate_succ]
theorem Jj9 (bs : List Int) (i : Nat) (h : i < 64) : (JbE bs i).set i (Jd5 bs i) = JbE bs (i + 1) := by
 have := JfB ((List.range i).map (Jd5 bs)) (63 - i) (Jd5 bs i)
 simp only [List.length_map, List.length_range] at this
 simp only [JbE, show 64 - i = 63 - i + 1 from by omega, this, show 64 - (i + 1) = 63 - i from by omega, List.range_succ, List.map_append, List.map_cons, List.map_nil]
theorem ZI (bs : List Int) (i j : Nat) (h : j < 16 + i) : (Jar bs i).getD j 0 = (QB bs i).getD j 0 := by
 simp only [Jar, List.getD_eq_getElem?_getD]
 rw [List.getElem?_append_left (by rw [J3]; exact h)]
theorem Jka (bs : List Int) (i : Nat) (h : i < 48) (x : Int) : (Jar bs i).set (i + 16) x = (QB bs i ++ [x]) ++ List.replicate (48 - (i + 1)) 0 := by
 have := JfB (QB bs i) (47 - i) x
 rw [J3] at this
 rw [Jar, show 48 - i = 47 - i + 1 from by omega, show i + 16 = 16 + i from by omega, this, show 48 - (i + 1) = 47 - i from by omega]
theorem Jln (bs : List Int) (hb : bs.length = 64) (f : Nat) (k0 : List PV -> List PV -> Option Res) (nl fl : Bool) (w : List PV) : ∀ (d i n : Nat), i + d = 16 -> d < n ->
  W4 f k0 n nl fl (pu .u8 bs) (i : Int) w (pu .u32 (JbE bs i)) = k0 w (pu .u32 (JbE bs 16))
 | 0, i, n + 1, h, hn => by
   obtain rfl : i = 16 := by omega
   simp only [W4, YS]
   exact Ji (by decide)
 | d + 1, i, n + 1, h, hn => by
   have h4 : IntKind.i64.wrap (4 * (i : Int)) = ((4 * i : Nat) : Int) := by rw [wrap_i64 (by omega) (by omega)]; omega
   have h41 : IntKind.i64.wrap (((4 * i : Nat) : Int) + 1) = ((4 * i + 1 : Nat) : Int) := by rw [wrap_i64 (by omega) (by omega)]; omega
   have h42 : IntKind.i64.wrap (((4 * i : Nat) : Int) + 2) = ((4 * i + 2 : Nat) : Int) := by rw [wrap_i64 (by omega) (by omega)]; omega
   have h43 : IntKind.i64.wrap (((4 * i : Nat) : Int) + 3) = ((4 * i + 3 : Nat) : Int) := by rw [wrap_i64 (by omega) (by omega)]; omega
   have h5 : IntKind.i64.wrap ((i : Int) + 1) = ((i + 1 : Nat) : Int) := by rw [wrap_i64 (by omega) (by omega)]; omega
   simp only [W4, YS, h4, h41, h42, h43, h5, Int.toNat_natCast, zi]
   rw [J2 (by omega), J2 (by omega), J2 (by omega), J2 (by omega), Qw (by omega), Qw (by omega), Qw (by omega), Qw (by omega), JG, WO]
   refine (Jc (by simp; omega)).trans ?_
   refine (Jc (by simp; omega)).trans ?_
   refine (Jc (by simp; omega)).trans ?_
   refine (Jc (by simp; omega)).trans ?_
   refine (Jc (by simp; omega)).trans ?_
   refine (Jc (by simp; omega)).trans ?_
   have := Jln bs hb f k0 nl fl w d (i + 1) n (by omega) (by omega)
   rw [← Jj9 bs i (by omega)] at this
   exact this
theorem Jlo (bs : List Int) (f : Nat) (k0 : List PV -> List PV -> Option Res) (w : List PV) : ∀ (d i n : Nat), i + d = 48 -> d < n ->
  W5 f k0 n ((i + 16 : Nat) : Int) w (pu .u32 (Jar bs i)) = k0 w (pu .u32 (QB bs 48))
 | 0, i, n + 1, h, hn => by
   obtain rfl : i = 48 := by omega
   simp only [W5, YT]
   exact (Ji (by decide)).trans (by simp [Jar])
 | d + 1, i, n + 1, h, hn => by
   have h15 : IntKind.i64.wrap (((i + 16 : Nat) : Int) - 15) = ((i + 1 : Nat) : Int) := by rw [wrap_i64 (by omega) (by omega)]; omega
   have h2 : IntKind.i64.wrap (((i + 16 : Nat) : Int) - 2) = ((i + 14 : Nat) : Int) := by rw [wrap_i64 (by omega) (by omega)]; omega
   have h16 : IntKind.i64.wrap (((i + 16 : Nat) : Int) - 16) = ((i : Nat) : Int) := by rw [wrap_i64 (by omega) (by omega)]; omega
   have h7 : IntKind.i64.wrap (((i + 16 : Nat) : Int) - 7) = ((i + 9 : Nat) : Int) := by rw [wrap_i64 (by omega) (by omega)]; omega
   have h1 : IntKind.i64.wrap (((i + 16 : Nat) : Int) + 1) = ((i + 1 + 16 : Nat) : Int) := by rw [wrap_i64 (by omega) (by omega)]; omega
   have hl := Jd6 bs i (by omega)
   simp only [W5, YT, h15, h2, h16, h7, h1, Int.toNat_natCast, zi, W1]
   rw [J2 (by omega), J2 (by omega), J2 (by omega), J2 (by omega), Qw (by omega), Qw (by omega), Qw (by omega), Qw (by omega), WO]
   refine (Jc (by simp; omega)).trans ?_
   refine (Jc (by simp; omega)).trans ?_
   refine (Jc (by simp)).trans ?_
   refine (Jc (by simp; omega)).trans ?_
   refine (Jc (by simp)).trans ?_
   refine (Jc (by simp; omega)).trans ?_
   refine (Jc (by simp)).trans ?_
   refine (Jc (by simp; omega)).trans ?_
   refine (Jc (by simp)).trans ?_
   refine (Jc (by simp; omega)).trans ?_
   have := Jlo bs f k0 w d (i + 1) n (by omega) (by omega)
   rw [ZI bs i i (by omega), ZI bs i (i + 1) (by omega), ZI bs i (i + 9) (by omega), ZI bs i (i + 14) (by omega), Jka bs i (by omega)]
   exact this
theorem Jn0 (bs : List Int) (hb : bs.length = 64) (nl fl : Bool) (k : Res -> Option Res) : JuZ 100 nl fl (pu .u8 bs) k = k ⟨.ar 118 (pu .u32 (J8 bs)), [], []⟩ := by
 have h0 : ∀ k0 w, W4 100 k0 100 nl fl (pu .u8 bs) 0 w (pu .u32 (List.replicate 64 0)) = k0 w (pu .u32 (JbE bs 16)) := fun k0 w => Jln bs hb 100 k0 nl fl w 16 0 100 (by omega) (by omega)
 have h1 : ∀ k0 w, W5 100 k0 100 16 w (pu .u32 (JbE bs 16)) = k0 w (pu .u32 (QB bs 48)) := fun k0 w => Jlo bs 100 k0 w 48 0 100 (by omega) (by omega)
 exact (h0 _ _).trans (h1 _ _)
def Jd7 : List PV -> List Ent -> (Res -> Option Res) -> Option Res
 | [.ro 5 nl fl b], [], k => bif Jj .u8 b && decide (b.length = 64) then k ⟨.ar 118 (pu .u32 (J8 (Jw b))), [], []⟩ else none
 | _, _, _ => none
def Jp4 : Sig := { own := [], run := Jd7 }
theorem JrT : Jg tau Try.prog 122 Jp4 := J0 Jp Jd4 Jq Jp2 Jp3 _ [] 0 [] Jd7 (Ju1 100) fun xs es k res hr => by
 unfold Jd7 at hr
 split at hr
 · obtain ⟨hc, hr⟩ := JE hr
   simp only [Bool.and_eq_true, decide_eq_true_eq] at hc
   refine ⟨rfl, 0, (Jy9 100 _ _ _ _).trans ?_⟩
   rw [Qp hc.1, Jn0 _ (by simpa using hc.2)]
   exact hr
 · cases hr
def Qx (g : Nat -> Int) (t : List Int) (i : Nat) : List Int := (List.range i).map g ++ t.drop i
theorem QO (g : Nat -> Int) (t : List Int) : Qx g t 0 = t := by simp [Qx]
theorem Q4 (g : Nat -> Int) (t : List Int) : Qx g t t.length = (List.range t.length).map g := by simp [Qx]
theorem VZ (g : Nat -> Int) (t : List Int) (i : Nat) (h : i <= t.length) : (Qx g t i).length = t.length := by simp [Qx]; omega
theorem Qu (g : Nat -> Int) (t : List Int) (i : Nat) (h : i < t.length) : (Qx g t i).set i (g i) = Qx g t (i + 1) := by
 rw [Qx, List.set_append_right _ _ (by simp), List.drop_eq_getElem_cons h, List.length_map, List.length_range, Nat.sub_self, List.set_cons_zero]
 simp [Qx, List.range_succ]
theorem JcY (g : Nat -> Int) (t : List Int) (i : Nat) (h : i < t.length) : (Qx g t i).getD i 0 = t.getD i 0 := by
 simp only [Qx, List.getD_eq_getElem?_getD]
 rw [List.getElem?_append_right (by simp)]
 simp
def kks : List Int := [1116352408, 1899447441, 3049323471, 3921009573, 961987163, 1508970993, 2453635748, 2870763221, 3624381080, 310598401, 607225278, 1426881987, 1925078388, 2162078206, 2614888103, 3248222580, 3835390401, 4022224774, 264347078, 604807628, 770255983, 1249150122, 1555081692, 1996064986, 2554220882, 2821834349, 2952996808, 3210313671, 3336571891, 3584528711, 113926993, 338241895, 666307205, 773529912, 1294757372, 1396182291, 1695183700, 1986661051, 2177026350, 2456956037, 2730485921, 2820302411, 3259730800, 3345764771, 3516065817, 3600352804, 4094571909, 275423344, 430227734, 506948616, 659060556, 883997877, 958139571, 1322822218, 1537002063, 1747873779, 1955562222, 2024104815, 2227730452, 2361852424, 2428436474, 2756734187, 3204031479, 3329325298]
def iv : List Int := [1779033703, 3144134277, 1013904242, 2773480762, 1359893119, 2600822924, 528734635, 1541459225]
def xW (k w h e f g : Int) : Int := ww (ww (ww (ww (h + JA .xor .u32 (JA .xor .u32 (rr e 6) (rr e 11)) (rr e 25)) + JA .xor .u32 (JA .and .u32 e f) (JA .and .u32 (JA .xor .u32 (Int.ofNat (2 ^ IntKind.u32.bits - Nat.succ 0)) e) g)) + k) + w)
def yW (a b c : Int) : Int := ww (JA .xor .u32 (JA .xor .u32 (rr a 2) (rr a 13)) (rr a 22) + JA .xor .u32 (JA .xor .u32 (JA .and .u32 a b) (JA .and .u32 a c)) (JA .and .u32 b c))
def rnd (k w : Int) (t : List Int) : List Int :=
 [ww (xW k w (t.getD 7 0) (t.getD 4 0) (t.getD 5 0) (t.getD 6 0) + yW (t.getD 0 0) (t.getD 1 0) (t.getD 2 0)), t.getD 0 0, t.getD 1 0, t.getD 2 0,
  ww (t.getD 3 0 + xW k w (t.getD 7 0) (t.getD 4 0) (t.getD 5 0) (t.getD 6 0)), t.getD 4 0, t.getD 5 0, t.getD 6 0]
def GU (W s : List Int) : Nat -> List Int
 | 0 => s
 | i + 1 => rnd (kks.getD i 0) (W.getD i 0) (GU W s i)
theorem W6 (W s : List Int) (h : s.length = 8) : ∀ i, (GU W s i).length = 8
 | 0 => h
 | i + 1 => rfl
def Jhe (s bs : List Int) : List Int := (List.range 8).map fun i => ww ((GU (J8 bs) s 64).getD i 0 + s.getD i 0)
theorem JfC (s bs : List Int) : (Jhe s bs).length = 8 := by simp [Jhe]
def WQ (s b : List Int) : Nat -> List Int
 | 0 => s
 | n + 1 => Jhe (WQ s b n) ((b.drop (64 * n)).take 64)
theorem Ww (s b : List Int) (h : s.length = 8) : ∀ n, (WQ s b n).length = 8
 | 0 => h
 | n + 1 => JfC _ _
def zs (m : Nat) : Nat := (120 - m % 64) % 64
def Jn1 (n : Nat) : List Int := (List.range 8).map fun (i : Nat) => IntKind.u8.wrap (JL .u64 (IntKind.u64.wrap (IntKind.u64.wrap (n : Int) * 8)) (56 - 8 * (i : Int)))
def QF (bs : List Int) : List Int := (bs ++ [128] ++ List.replicate (zs (bs.length + 1)) 0) ++ Jn1 bs.length
theorem Jas (bs : List Int) : (QF bs).length = 64 * ((QF bs).length / 64) := by
 have : (QF bs).length = bs.length + 1 + zs (bs.length + 1) + 8 := by simp [QF, Jn1]; omega
 rw [this]; unfold zs; omega
def Yu (s : List Int) (i : Nat) : Int := IntKind.u8.wrap (JL .u32 (s.getD (i / 4) 0) (24 - 8 * ((i % 4 : Nat) : Int)))
def Jlp (s : List Int) : List Int := (List.range 32).map (Yu s)
def JiL (bs : List Int) : List Int := Jlp (WQ iv (QF bs) ((QF bs).length / 64))
def JT (bs : List Int) : List Int := bif Nat.ble bs.length bs.length then JiL bs else []
theorem JaV (bs : List Int) : JT bs = JiL bs := by
 have : Nat.ble bs.length bs.length = true := by rw [Nat.ble_eq]; exact Nat.le_refl _
 rw [JT, this]; rfl
theorem Qi (bs : List Int) : (JT bs).length = 32 := by simp [JaV, JiL, Jlp]
theorem JbF (n : Nat) : (zi n).tmod 64 = ((n % 64 : Nat) : Int) := by
 show (n : Int).tmod 64 = _
 rw [Int.tmod_eq_emod_of_nonneg (by omega)]; omega
-- FN ref8.Hash
def Jkb : Nat -> RS -> RS
 | 0, s => s
 | n + 1, s => Jkb n (Qm 1 s)
def Jcm : Nat -> RS -> List Int
 | 0, _ => []
 | n + 1, s => IntKind.u8.wrap (Wf 1 s) :: Jcm n (Qm 1 s)
def JbG : Nat -> RT -> RT
 | 0, t => t
 | n + 1, t => JbG n (QA 1 t)
def hashS : RS -> RS := hid (Jkb 32)
def hashV : RS -> List Int := hid (Jcm 32)
def hashT : RT -> RT := hid (JbG 32)
def hashVT : RT -> List Int := hid fun t => Jcm 32 t.view
theorem hashS_eq (s : RS) : hashS s = Jkb 32 s := by rw [hashS, hid_eq]
theorem hashV_eq (s : RS) : hashV s = Jcm 32 s := by rw [hashV, hid_eq]
theorem hashT_eq (t : RT) : hashT t = JbG 32 t := by rw [hashT, hid_eq]
theorem hashVT_eq (t : RT) : hashVT t = Jcm 32 t.view := by rw [hashVT, hid_eq]
theorem Jat : ∀ (n : Nat) (s : RS), (Jcm n s).length = n
 | 0, _ => rfl
 | n + 1, s => by simp [Jcm, Jat n]
@[simp] theorem hashV_length (s : RS) : (hashV s).length = 32 := by rw [hashV_eq]; exact Jat 32 s
theorem JcZ : ∀ (n : Nat) (t : RT), (JbG n t).view = Jkb n t.view
 | 0, _ => rfl
 | n + 1, t => by simp only [JbG, Jkb, JcZ n, Xs]
@[simp] theorem hashT_view (t : RT) : (hashT t).view = hashS t.view := by rw [hashT_eq, hashS_eq, JcZ]
@[simp] theorem hashVT_val (t : RT) : hashVT t = hashV t.view := by rw [hashVT_eq, hashV_eq]
theorem JiM : ∀ (n : Nat) {t : RT}, okT t = true -> okT (JbG n t) = true
 | 0, _, h => h
 | n + 1, t, h => JiM n (YP h 1)
@[simp] theorem Jlq {t : RT} (h : okT t = true) : okT (hashT t) = true := by rw [hashT_eq]; exact JiM 32 h
theorem JiN : ∀ (n : Nat) {s : RS}, byB s.b = true -> byB (Jkb n s).b = true
 | 0, _, h => h
 | n + 1, s, h => JiN n (Jft h 1)
theorem Jp5 (f : Nat) (k0 : Bool -> Bool -> List PV -> Int -> Int -> List PV -> List PV -> Option Res) (z fl : Bool) (h0 : List PV) : ∀ (d i n : Nat) (t : RT) (L : List Int), i + d = 32 -> d < n -> okT t = true -> L.length = 32 ->
  Vd f k0 n (i : Int) z fl t.B t.P t.e h0 (pu .u8 L) = k0 z fl (JbG d t).B (JbG d t).P (JbG d t).e h0 (pu .u8 (L.take i ++ Jcm d t.view))
 | 0, i, n + 1, t, L, h, hn, hk, hL => by
   obtain rfl : i = 32 := by omega
   simp only [Vd, VY, JbG, Jcm, List.append_nil]
   rw [List.take_of_length_le (by omega)]
   exact Ji (by decide)
 | d + 1, i, n + 1, t, L, h, hn, hk, hL => by
   have g1 : ((i : Int)).toNat = i := by omega
   have w1 : IntKind.i64.wrap ((i : Int) + 1) = ((i + 1 : Nat) : Int) := by rw [wrap_i64 (by omega) (by omega)]; omega
   simp only [Vd, VY, g1, w1, WO]
   refine (Jc (by simp; omega)).trans ((Jc hk).trans ((Jc (by simp; omega)).trans ?_))
   have := Jp5 f k0 z fl h0 d (i + 1) n (QA 1 t) (L.set i (IntKind.u8.wrap (Jt 1 t))) (by omega) (by omega) (YP hk 1) (by simpa using hL)
   rw [Wg]
   refine this.trans ?_
   have hset : (L.set i (IntKind.u8.wrap (Jt 1 t))).take (i + 1) = L.take i ++ [IntKind.u8.wrap (Jt 1 t)] := by
    rw [List.take_add_one, List.take_set_of_le (Nat.le_refl i), List.getElem?_set_self (by omega)]; rfl
   rw [hset, Xs, JaU]
   simp only [JbG, Jcm, List.append_assoc, List.cons_append, List.nil_append]
def Jhf : List PV -> List Ent -> (Res -> Option Res) -> Option Res
 | [.ptr 0 []], [.box false 138 (.st 138 [.ro 5 z f B, .sc (.int .i64 P), .sc (.int .i64 e)])], k =>
  bif okT ⟨B, P, e⟩ then k ⟨.ar 37 (pu .u8 (hashVT ⟨B, P, e⟩)), [rfP z f (hashT ⟨B, P, e⟩)], []⟩ else none
 | _, _, _ => none
def Ju4 : Sig := { own := [], run := Jhf }
theorem Ju5 : Jg tau Try.prog 87 Ju4 := Jg.mk' fun xs es k res hl hr => by
 change Jhf xs es k = some res at hr
 unfold Jhf at hr
 split at hr
 · rename_i z f B P e
   obtain ⟨hc, hr⟩ := JE hr
   have hg : g87 40 z f B P e k = some res := by
    have h := Jp5 40 (fun x0_0 x1_0 x2_0 x3_0 x4_0 x5_0 x6_0 => k (Res.mk (.ar 37 x6_0) [.box false 138 (.st 138 [.ro 5 x0_0 x1_0 x2_0, .sc (.int .i64 x3_0), .sc (.int .i64 x4_0)])] [])) z f (pu .u8 (List.replicate 32 0)) 32 0 40 ⟨B, P, e⟩ (List.replicate 32 0) (by omega) (by omega) hc (by simp)
    rw [List.take_zero, List.nil_append] at h
    rw [hashVT_eq, hashT_eq] at hr
    exact Eq.trans h hr
   exact Qr Jp Jlf Jq JuI JuJ (JnS (JbB 40)) [.ro] 1 0 (Jy0 40) hl rfl ((e87 40 z f B P e k).trans hg)
 · cases hr
-- FN wire.read
def fS : Nat -> RS -> RS
 | 0, s => s
 | 1, s => JK 1 s
 | n + 2, s => JK 8 (fS (n + 1) s)
def JbH (c : Int) (s : RS) : RS := ⟨s.b, bif s.e == 0 then c else s.e⟩
def txR : Nat -> RS -> RS
 | 0, s => s
 | n + 1, s => txR n (Jj6 s)
def JrU (s : RS) : Int := Qe 1 (fS 13 s)
def Ju6 (s : RS) : Nat := bif decide (JrU s > 4) then 0 else (JrU s).toNat
def Ju7 (s : RS) : RS := bif decide (JrU s > 4) then JbH 4 (JK 1 (fS 13 s)) else JK 1 (fS 13 s)
def JrV : RS -> List Int := hid fun s => hashV (txR (Ju6 s) (Ju7 s))
theorem Jn2 (s : RS) : JrV s = hashV (txR (Ju6 s) (Ju7 s)) := by rw [JrV, hid_eq]
@[simp] theorem Jp6 (s : RS) : (JrV s).length = 32 := by rw [Jn2]; exact hashV_length _
theorem YU {s : RS} (h : byB s.b = true) (n : Nat) : byB (JK n s).b = true := by rw [VS]; exact Jft h n
theorem YV : ∀ l : List PV, (JC l).length = l.length
 | [] => rfl
 | p :: ps => by simp [JC, YV ps]
theorem Jkc {s : RS} (h : byB s.b = true) : (JdZ s).size <= 65535 := by
 rw [JiD]
 show (JC _).length <= _
 rw [YV]
 have h1 := WP (Wf 2 s).toNat (Qm 2 s)
 have h2 := Vb h (n := 2) (Nat.le_refl 2)
 omega
theorem Jau (t : ByteArray) : (Jn t).length = t.size := by simp only [Jn, List.length_map, Array.length_toList]; rfl
-- FN wire.check | wire.key
def WR (x m : Int) : Bool := decide (x >= 0) && decide (x <= m)
def Jza (fr to wh wn cd cu ve co ad au su er : Int) : Bool := WR fr 2 && (WR to 2 && (!(fr == to) && (WR wh 2 && (WR wn 99 && (WR cd 2 && (WR cu 7 && (WR ad 2 && (WR au 7 && (WR ve 1073741824 && (WR co 1073741824 && (WR su 1073741824 && WR er 255)))))))))))
def Jzb (kd fr to wh wn cd cu ve co ad au su er : Int) : Int := bif WR (IntKind.i64.wrap (kd - 1)) 4 then (bif Jza fr to wh wn cd cu ve co ad au su er then 0 else 1) else 3
structure C13 where
 (kd fr to wh wn cd cu ve co ad au su er : Int)
def chk : C13 -> Int := hid fun c => Jzb c.kd c.fr c.to c.wh c.wn c.cd c.cu c.ve c.co c.ad c.au c.su c.er
def JfD (l : List PV) (d : Int) : PV := bif WR d 2 then l.getD d.toNat .top else .ro 5 true true []
structure K3 where
 (l : List PV) (d : Int)
def Jd8 : K3 -> List PV := hid fun c => (JfD c.l c.d).els
theorem JiO (c : K3) : Jd8 c = (JfD c.l c.d).els := by rw [Jd8, hid_eq]
def Ju8 : Fns := F0
theorem Jn3 : Jy tau Try.prog Ju8 := JD
def JiP : An := (.seq .leaf (.seq (.seq .leaf (.cond .leaf .leaf)) (.seq (.seq .leaf (.seq .leaf (.cond .leaf .leaf))) (.seq .leaf .leaf))))
def Ju9 (f : Nat) (n : Int) (k : Res -> Option Res) : Option Res := bif decide (n < 0) then none else bif decide (IntKind.i64.wrap (n - IntKind.i64.wrap (zi 0 - zi 0)) > 0) then bif decide (0 <= IntKind.i64.wrap (n - IntKind.i64.wrap (zi 0 - zi 0))) && Jk (IntKind.i64.wrap (n - IntKind.i64.wrap (zi 0 - zi 0))).toNat 1 && true then k (Res.mk (.ow 5 16 [] 0 0 none) [] [.vec false 5 (IntKind.i64.wrap (n - IntKind.i64.wrap (zi 0 - zi 0)) == 0) (List.replicate (IntKind.i64.wrap (n - IntKind.i64.wrap (zi 0 - zi 0))).toNat (.sc (.int .u8 0)))]) else none else k (Res.mk (.ro 5 true true []) [] [])
theorem Jzc (f : Nat) (n : Int) (k : Res -> Option Res) : JQ tau Ju8 Try.f121 (Try.f121.body.get!) JiP [] 0 [.ro 5 true true [], .sc (.int .i64 n)] [] k = Ju9 f n k := by kernel_rfl
theorem Jva (f : Nat) : Jf (Try.f121.body.get!) JiP = [] := by kernel_rfl
theorem Jvb (f : Nat) : ∀ q ∈ Jf (Try.f121.body.get!) JiP, q.Ok tau Try.prog 0 := by
 rw [Jva f]; intro q hq; cases hq
theorem Jp7 : Try.prog.funcs[121]? = some Try.f121 := by kernel_rfl
theorem Jp8 : Try.f121.body = some (Try.f121.body.get!) := by kernel_rfl
theorem Jvc : Enters Try.prog 121 := enters_of Jp7 (by kernel_rfl) Jp8
def Jhg : List PV -> List Ent -> (Res -> Option Res) -> Option Res
 | [.ro 5 true true [], .sc (.int .i64 n)], [], k => Ju9 0 n k
 | _, _, _ => none
def Jvd : Sig := { own := [], run := Jhg }
theorem Jve : Jg tau Try.prog 121 Jvd := J0 Jp Jn3 Jq Jp7 Jp8 JiP [] 0 [] Jhg (Jvb 0) fun xs es k res hr => by
 unfold Jhg at hr
 split at hr
 · exact ⟨rfl, 0, (Jzc 0 _  _).trans hr⟩
 · cases hr
def N70 : Nat := 36
def F70 : Fns := JH 121 Jvd (F0)
theorem Jhh : Jy tau Try.prog F70 := (JD).add Jve Jvc
def Jc0 : Code := Qo (Try.f70.body.get!) [1, 1, 0, 1, 0, 0]
def XQ : Nm := [(0, .any), (3, .any), (9, .any), (10, .any), (11, .any)]
def YW : Nm := [(0, .any), (3, .any)]
def JfE : An := (.seq .leaf (.seq (.cond .leaf .leaf) (.seq (.block none (.seq .leaf (.seq .leaf (.seq .leaf (.cond .leaf .leaf))))) .leaf)))
def Jc1 : Code := Qo (Try.f70.body.get!) [1, 1, 1, 1, 0, 1, 0, 0]
def XR : Nm := [(6, .own), (25, .any), (26, .any), (27, .any)]
def YX : Nm := [(6, .any)]
def JfF : An := (.seq .leaf (.seq (.cond .leaf .leaf) (.seq (.block none (.seq .leaf .leaf)) .leaf)))
def Jn4 (r0 : QE) (r1 : QE) : An := (.seq .leaf (.seq .leaf (.seq (.seq .leaf (.block none (.sum XQ N70 r0))) (.seq .leaf (.seq (.seq .leaf (.block none (.sum XR N70 r1))) (.seq .leaf .leaf))))))
def V0 (f : Nat) (rc : Bool -> Bool -> List PV -> Int -> Bool -> Bool -> List PV -> Int -> Int -> Option Res) (k0 : Bool -> Bool -> List PV -> Int -> Option Res) (v0 v1 : Bool) (v2 : List PV) (v3 : Int) (v4 v5 : Bool) (v6 : List PV) (v7 v8 : Int) : Option Res := bif decide (v8 < v7) then bif decide (0 <= v8) && decide (v8 < zi v6.length) && PV.isRo 5 (v6.getD v8.toNat PV.top) && true then bif decide (IntKind.i64.wrap (v3 + zi (v6.getD v8.toNat PV.top).els.length) < 0) then none else rc v0 v1 v2 (IntKind.i64.wrap (v3 + zi (v6.getD v8.toNat PV.top).els.length)) v4 v5 v6 v7 (IntKind.i64.wrap (v8 + 1)) else none else k0 v0 v1 v2 v3
def Ve (f : Nat) (k0 : Bool -> Bool -> List PV -> Int -> Option Res) : Nat -> Bool -> Bool -> List PV -> Int -> Bool -> Bool -> List PV -> Int -> Int -> Option Res
 | 0, _, _, _, _, _, _, _, _, _ => none
 | n + 1, v0, v1, v2, v3, v4, v5, v6, v7, v8 => V0 f (Ve f k0 n) k0 v0 v1 v2 v3 v4 v5 v6 v7 v8
theorem Jn5 (f : Nat) (k : Kont) (n : Nat) (v0 v1 : Bool) (v2 : List PV) (v3 : Int) (v4 v5 : Bool) (v6 : List PV) (v7 v8 : Int) : Jl tau 0 XQ (fun s k => ev tau F70 0 0 Jc0 (JfE ) s k) (n + 1) (Jd XQ N70 [.ro 29 v0 v1 v2, .sc (.int .i64 v3), .ro 29 v4 v5 v6, .sc (.int .i64 v7), .sc (.int .i64 v8)] []) (Jo tau 0 YW k) = V0 f (fun v0 v1 v2 v3 v4 v5 v6 v7 v8 => Jl tau 0 XQ (fun s k => ev tau F70 0 0 Jc0 (JfE ) s k) n (Jd XQ N70 [.ro 29 v0 v1 v2, .sc (.int .i64 v3), .ro 29 v4 v5 v6, .sc (.int .i64 v7), .sc (.int .i64 v8)] []) (Jo tau 0 YW k)) (fun x0 x1 x2 x3 => k (Ex.exit 0) (Jd YW N70 [.ro 29 x0 x1 x2, .sc (.int .i64 x3)] [])) v0 v1 v2 v3 v4 v5 v6 v7 v8 := by kernel_rfl
theorem JiQ (f : Nat) (k : Kont) : ∀ (n : Nat) (v0 v1 : Bool) (v2 : List PV) (v3 : Int) (v4 v5 : Bool) (v6 : List PV) (v7 v8 : Int), Jl tau 0 XQ (fun s k => ev tau F70 0 0 Jc0 (JfE ) s k) n (Jd XQ N70 [.ro 29 v0 v1 v2, .sc (.int .i64 v3), .ro 29 v4 v5 v6, .sc (.int .i64 v7), .sc (.int .i64 v8)] []) (Jo tau 0 YW k) = Ve f (fun x0 x1 x2 x3 => k (Ex.exit 0) (Jd YW N70 [.ro 29 x0 x1 x2, .sc (.int .i64 x3)] [])) n v0 v1 v2 v3 v4 v5 v6 v7 v8 | 0, _, _, _, _, _, _, _, _, _ => rfl | n + 1, v0, v1, v2, v3, v4, v5, v6, v7, v8 => (Jn5 f k n v0 v1 v2 v3 v4 v5 v6 v7 v8).trans (congrArg (fun r => V0 f r (fun x0 x1 x2 x3 => k (Ex.exit 0) (Jd YW N70 [.ro 29 x0 x1 x2, .sc (.int .i64 x3)] [])) v0 v1 v2 v3 v4 v5 v6 v7 v8) (by funext v0 v1 v2 v3 v4 v5 v6 v7 v8; exact JiQ f k n v0 v1 v2 v3 v4 v5 v6 v7 v8))
def JbI (f : Nat) : List PV -> List (Nat × Ent) -> Kont -> Option Res
 | [.ro 29 v0 v1 v2, .sc (.int .i64 v3), .ro 29 v4 v5 v6, .sc (.int .i64 v7),
 .sc (.int .i64 v8)], [], k => Ve f (fun x0 x1 x2 x3 => k (Ex.exit 0) (Jd YW N70 [.ro 29 x0 x1 x2, .sc (.int .i64 x3)] [])) f v0 v1 v2 v3 v4 v5 v6 v7 v8
 | _, _, _ => none
theorem JrW (f : Nat) : Jf Jc0 JfE = [] := by kernel_rfl
theorem Jvf (f : Nat) : (Item.l Jc0 XQ N70 (JbI f)).Ok tau Try.prog 0 := Jz Jp Jhh Jq (x := JfE) (nm2 := YW) (Jm _ _ (by rw [JrW f]; intro q hq; cases hq)) fun vs hp k res hr => by
 unfold JbI at hr
 split at hr
 · exact ⟨f, 0, (JiQ f _ f _ _ _ _ _ _ _ _ _ ).trans hr⟩
 · cases hr
def V1 (f : Nat) (rc : Nat -> Bool -> Bool -> List PV -> Int -> Int -> Bool -> List PV -> Option Res) (k0 : Nat -> Bool -> List PV -> Option Res) (v0 : Nat) (v1 v2 : Bool) (v3 : List PV) (v4 v5 : Int) (v6 : Bool) (v7 : List PV) : Option Res := bif decide (v5 < v4) then bif decide (0 <= v5) && decide (v5 < zi v3.length) && PV.isRo 5 (v3.getD v5.toNat PV.top) && true then bif Jk (v0 + (v3.getD v5.toNat PV.top).els.length) 1 && true then rc (v0 + (v3.getD v5.toNat PV.top).els.length) v1 v2 v3 v4 (IntKind.i64.wrap (v5 + 1)) (v6 && (v3.getD v5.toNat PV.top).els.isEmpty) (List.take v0 v7 ++ (v3.getD v5.toNat PV.top).els) else none else none else k0 v0 v6 v7
def Xg (f : Nat) (k0 : Nat -> Bool -> List PV -> Option Res) : Nat -> Nat -> Bool -> Bool -> List PV -> Int -> Int -> Bool -> List PV -> Option Res
 | 0, _, _, _, _, _, _, _, _ => none
 | n + 1, v0, v1, v2, v3, v4, v5, v6, v7 => V1 f (Xg f k0 n) k0 v0 v1 v2 v3 v4 v5 v6 v7
theorem Jn6 (f : Nat) (k : Kont) (n v0 : Nat) (v1 v2 : Bool) (v3 : List PV) (v4 v5 : Int) (v6 : Bool) (v7 : List PV) : Jl tau 0 XR (fun s k => ev tau F70 0 0 Jc1 (JfF ) s k) (n + 1) (Jd XR N70 [.ow 5 592 [] 0 v0 none, .ro 29 v1 v2 v3, .sc (.int .i64 v4), .sc (.int .i64 v5)] [(592, .vec false 5 v6 v7)]) (Jo tau 0 YX k) = V1 f (fun v0 v1 v2 v3 v4 v5 v6 v7 => Jl tau 0 XR (fun s k => ev tau F70 0 0 Jc1 (JfF ) s k) n (Jd XR N70 [.ow 5 592 [] 0 v0 none, .ro 29 v1 v2 v3, .sc (.int .i64 v4), .sc (.int .i64 v5)] [(592, .vec false 5 v6 v7)]) (Jo tau 0 YX k)) (fun x0 x1 x2 => k (Ex.exit 2) (Jd YX N70 [.ow 5 592 [] 0 x0 none] [(592, .vec false 5 x1 x2)])) v0 v1 v2 v3 v4 v5 v6 v7 := by kernel_rfl
theorem JiR (f : Nat) (k : Kont) : ∀ (n v0 : Nat) (v1 v2 : Bool) (v3 : List PV) (v4 v5 : Int) (v6 : Bool) (v7 : List PV), Jl tau 0 XR (fun s k => ev tau F70 0 0 Jc1 (JfF ) s k) n (Jd XR N70 [.ow 5 592 [] 0 v0 none, .ro 29 v1 v2 v3, .sc (.int .i64 v4), .sc (.int .i64 v5)] [(592, .vec false 5 v6 v7)]) (Jo tau 0 YX k) = Xg f (fun x0 x1 x2 => k (Ex.exit 2) (Jd YX N70 [.ow 5 592 [] 0 x0 none] [(592, .vec false 5 x1 x2)])) n v0 v1 v2 v3 v4 v5 v6 v7 | 0, _, _, _, _, _, _, _, _ => rfl | n + 1, v0, v1, v2, v3, v4, v5, v6, v7 => (Jn6 f k n v0 v1 v2 v3 v4 v5 v6 v7).trans (congrArg (fun r => V1 f r (fun x0 x1 x2 => k (Ex.exit 2) (Jd YX N70 [.ow 5 592 [] 0 x0 none] [(592, .vec false 5 x1 x2)])) v0 v1 v2 v3 v4 v5 v6 v7) (by funext v0 v1 v2 v3 v4 v5 v6 v7; exact JiR f k n v0 v1 v2 v3 v4 v5 v6 v7))
def JbJ (f : Nat) : List PV -> List (Nat × Ent) -> Kont -> Option Res
 | [.ow 5 592 [] 0 v0 none, .ro 29 v1 v2 v3, .sc (.int .i64 v4),
 PV.sc
  (Value.int IntKind.i64
   v5)], [(592, .vec false 5 v6 v7)], k => Xg f (fun x0 x1 x2 => k (Ex.exit 2) (Jd YX N70 [.ow 5 592 [] 0 x0 none] [(592, .vec false 5 x1 x2)])) f v0 v1 v2 v3 v4 v5 v6 v7
 | _, _, _ => none
theorem JrX (f : Nat) : Jf Jc1 JfF = [] := by kernel_rfl
theorem Jvg (f : Nat) : (Item.l Jc1 XR N70 (JbJ f)).Ok tau Try.prog 0 := Jz Jp Jhh Jq (x := JfF) (nm2 := YX) (Jm _ _ (by rw [JrX f]; intro q hq; cases hq)) fun vs hp k res hr => by
 unfold JbJ at hr
 split at hr
 · exact ⟨f, 0, (JiR f _ f _ _ _ _ _ _ _ _ ).trans hr⟩
 · cases hr
def g70 (f : Nat) (y0 y1 : Bool) (slices : List PV) (k : Res -> Option Res) : Option Res := Ve f (fun x0_0 x1_0 x2_0 x3_0 => bif decide (x3_0 < 0) then none else bif decide (IntKind.i64.wrap (x3_0 - IntKind.i64.wrap (zi 0 - zi 0)) > 0) then bif decide (0 <= IntKind.i64.wrap (x3_0 - IntKind.i64.wrap (zi 0 - zi 0))) && Jk (IntKind.i64.wrap (x3_0 - IntKind.i64.wrap (zi 0 - zi 0))).toNat 1 && true then Xg f (fun x0_1 x1_1 x2_1 => k (Res.mk (.ow 5 16 [] 0 x0_1 none) [] [.vec false 5 x1_1 x2_1])) f (0) x0_0 x1_0 x2_0 (zi x2_0.length) (0) (IntKind.i64.wrap (x3_0 - IntKind.i64.wrap (zi 0 - zi 0)) == 0) (List.replicate (IntKind.i64.wrap (x3_0 - IntKind.i64.wrap (zi 0 - zi 0))).toNat (.sc (.int .u8 0))) else none else Xg f (fun x0_2 x1_2 x2_2 => k (Res.mk (.ow 5 16 [] 0 x0_2 none) [] [.vec false 5 x1_2 x2_2])) f (0) x0_0 x1_0 x2_0 (zi x2_0.length) (0) true ([])) f y0 y1 slices (0) y0 y1 slices (zi slices.length) (0)
theorem e70 (f : Nat) (y0 y1 : Bool) (slices : List PV) (k : Res -> Option Res) : JQ tau F70 Try.f70 (Try.f70.body.get!) (Jn4 (JbI f) (JbJ f)) [] 0 [.ro 29 y0 y1 slices] [] k = g70 f y0 y1 slices k := by kernel_rfl
theorem Jzd (f : Nat) : Jf (Try.f70.body.get!) (Jn4 (JbI f) (JbJ f)) = [.l Jc0 XQ N70 (JbI f), .l Jc1 XR N70 (JbJ f)] := by kernel_rfl
theorem Jze (f : Nat) : ∀ q ∈ Jf (Try.f70.body.get!) (Jn4 (JbI f) (JbJ f)), q.Ok tau Try.prog 0 := by
 rw [Jzd f]; simp only [List.forall_mem_cons, List.not_mem_nil, false_implies, implies_true, and_true]; exact ⟨Jvf f, Jvg f⟩
theorem Jvh : Try.prog.funcs[70]? = some Try.f70 := by kernel_rfl
theorem Jvi : Try.f70.body = some (Try.f70.body.get!) := by kernel_rfl
theorem Jzf : Enters Try.prog 70 := enters_of Jvh (by kernel_rfl) Jvi
-- FN slices.Concat[[]byte,byte]
def JS (l : List PV) : List PV := (l.map PV.els).flatten
@[simp] theorem JfG : JS [] = [] := rfl
@[simp] theorem GV (p : PV) (l : List PV) : JS (p :: l) = p.els ++ JS l := by simp [JS]
theorem Jav (a b : List PV) : JS (a ++ b) = JS a ++ JS b := by simp [JS]
theorem JbK (l : List PV) (i : Nat) (h : i < l.length) : l.take (i + 1) = l.take i ++ [l.getD i .top] := by
 rw [List.take_add_one, List.getD_eq_getElem?_getD, List.getElem?_eq_getElem h]; rfl
theorem JfH (l : List PV) (i : Nat) (h : i < l.length) : l.drop i = l.getD i .top :: l.drop (i + 1) := by
 rw [List.drop_eq_getElem_cons h, List.getD_eq_getElem?_getD, List.getElem?_eq_getElem h]; rfl
theorem GW (l : List PV) (i : Nat) (h : i < l.length) : JS (l.take (i + 1)) = JS (l.take i) ++ (l.getD i .top).els := by
 rw [JbK l i h, Jav, GV, JfG, List.append_nil]
theorem V2 (l : List PV) (i : Nat) : (JS (l.take i)).length <= (JS l).length := by
 have : JS l = JS (l.take i) ++ JS (l.drop i) := by rw [← Jav, List.take_append_drop]
 rw [this, List.length_append]; omega
theorem Jc2 {l : List PV} (h : l.all (PV.isRo 5) = true) {i : Nat} (hi : i < l.length) : (l.getD i .top).isRo 5 = true := by
 rw [List.getD_eq_getElem?_getD, List.getElem?_eq_getElem hi]
 exact List.all_eq_true.1 h _ (List.getElem_mem hi)
theorem JfI {α : Type} (a b : List α) : (a ++ b).isEmpty = (a.isEmpty && b.isEmpty) := by cases a <;> rfl
theorem Jp9 (f : Nat) (k0 : Bool -> Bool -> List PV -> Int -> Option Res) (a b : Bool) (c : List PV) (nl fl : Bool) (l : List PV) (hl : l.all (PV.isRo 5) = true) (hs : (JS l).length <= 140737488355328) (hn : l.length <= 140737488355328) : ∀ (d i n : Nat), i + d = l.length -> d < n ->
  Ve f k0 n a b c ((JS (l.take i)).length : Int) nl fl l (l.length : Int) (i : Int) = k0 a b c ((JS l).length : Int)
 | 0, i, n + 1, h, hd => by
   obtain rfl : i = l.length := by omega
   simp only [Ve, V0]
   exact (Ji (by simp)).trans (by rw [List.take_length])
 | d + 1, i, n + 1, h, hd => by
   have hle := V2 l (i + 1)
   have hadd : (JS (l.take (i + 1))).length = (JS (l.take i)).length + (l.getD i .top).els.length := by rw [GW l i (by omega), List.length_append]
   have h1 : IntKind.i64.wrap ((i : Int) + 1) = ((i + 1 : Nat) : Int) := by rw [wrap_i64 (by omega) (by omega)]; omega
   have h2 : IntKind.i64.wrap (((JS (l.take i)).length : Int) + ((l.getD i .top).els.length : Int)) = ((JS (l.take (i + 1))).length : Int) := by rw [wrap_i64 (by omega) (by omega)]; omega
   simp only [Ve, V0, zi, Int.toNat_natCast, h1, h2]
   refine (Jc (by simp <;> omega)).trans ?_
   refine (Jc (by rw [Jc2 hl (by omega)]; simp; omega)).trans ?_
   refine (Ji (by simp <;> omega)).trans ?_
   exact Jp9 f k0 a b c nl fl l hl hs hn d (i + 1) n (by omega) (by omega)
theorem Jlr (f : Nat) (k0 : Nat -> Bool -> List PV -> Option Res) (nl fl : Bool) (l : List PV) (hl : l.all (PV.isRo 5) = true) (hs : (JS l).length <= 140737488355328) (hn : l.length <= 140737488355328) : ∀ (d i n : Nat) (z : Bool) (v : List PV), i + d = l.length -> d < n -> v.take (JS (l.take i)).length = JS (l.take i) -> (d = 0 -> v = JS l) ->
  Xg f k0 n (JS (l.take i)).length nl fl l (l.length : Int) (i : Int) z v = k0 (JS l).length (z && (JS (l.drop i)).isEmpty) (JS l)
 | 0, i, n + 1, z, v, h, hd, hv, h0 => by
   obtain rfl : i = l.length := by omega
   simp only [Xg, V1]
   refine (Ji (by simp)).trans ?_
   rw [List.take_length, h0 rfl, List.drop_length]; simp
 | d + 1, i, n + 1, z, v, h, hd, hv, h0 => by
   have hle := V2 l (i + 1)
   have hadd : (JS (l.take (i + 1))).length = (JS (l.take i)).length + (l.getD i .top).els.length := by rw [GW l i (by omega), List.length_append]
   have h1 : IntKind.i64.wrap ((i : Int) + 1) = ((i + 1 : Nat) : Int) := by rw [wrap_i64 (by omega) (by omega)]; omega
   simp only [Xg, V1, zi, Int.toNat_natCast, h1, hv]
   refine (Jc (by simp <;> omega)).trans ?_
   refine (Jc (by rw [Jc2 hl (by omega)]; simp; omega)).trans ?_
   refine (Jc (by simp only [Jk, Bool.and_true, decide_eq_true_eq]; omega)).trans ?_
   have := Jlr f k0 nl fl l hl hs hn d (i + 1) n (z && (l.getD i .top).els.isEmpty) (JS (l.take (i + 1))) (by omega) (by omega) (List.take_length) (fun hd0 => by rw [show i + 1 = l.length from by omega, List.take_length])
   rw [hadd, GW l i (by omega)] at this
   rw [this, JfH l i (by omega), GV, JfI, Bool.and_assoc]
def Jhi : List PV -> List Ent -> (Res -> Option Res) -> Option Res
 | [.ro 29 nl fl l], [], k => bif l.all (PV.isRo 5) && (decide ((JS l).length <= 140737488355328) && decide (l.length <= 140737488355328)) then k ⟨.ow 5 16 [] 0 (JS l).length none, [], [.vec false 5 (JS l).isEmpty (JS l)]⟩ else none
 | _, _, _ => none
def Jvj : Sig := { own := [], run := Jhi }
theorem JrY (nl fl : Bool) (l : List PV) (k : Res -> Option Res) (hl : l.all (PV.isRo 5) = true) (hs : (JS l).length <= 140737488355328) (hn : l.length <= 140737488355328) :
  g70 (l.length + 1) nl fl l k = k ⟨.ow 5 16 [] 0 (JS l).length none, [], [.vec false 5 (JS l).isEmpty (JS l)]⟩ := by
 have h0 := Jp9 (l.length + 1) (fun x0_0 x1_0 x2_0 x3_0 =>
  bif decide (x3_0 < 0) then
   none
  else bif decide (IntKind.i64.wrap (x3_0 - IntKind.i64.wrap (zi 0 - zi 0)) > 0) then
   bif decide (0 <= IntKind.i64.wrap (x3_0 - IntKind.i64.wrap (zi 0 - zi 0))) && Jk (IntKind.i64.wrap (x3_0 - IntKind.i64.wrap (zi 0 - zi 0))).toNat 1 && true then
    Xg (l.length + 1) (fun x0_1 x1_1 x2_1 =>
     k (Res.mk (PV.ow 5 16 [] 0 x0_1 none) []
      [Ent.vec false 5 x1_1
       x2_1])) (l.length + 1) (0) x0_0 x1_0 x2_0 (zi
     x2_0.length) (0) (IntKind.i64.wrap (x3_0 - IntKind.i64.wrap (zi 0 - zi 0)) ==
     0) (List.replicate (IntKind.i64.wrap (x3_0 - IntKind.i64.wrap (zi 0 - zi 0))).toNat (PV.sc (Value.int IntKind.u8 0)))
   else none
  else Xg (l.length + 1) (fun x0_2 x1_2 x2_2 =>
   k (Res.mk (PV.ow 5 16 [] 0 x0_2 none) [] [Ent.vec false 5 x1_2 x2_2])) (l.length + 1) (0) x0_0 x1_0 x2_0 (zi x2_0.length) (0) true ([])) nl fl l nl fl l hl hs hn l.length 0 (l.length + 1) (by omega) (by omega)
 refine h0.trans ?_
 have hw : IntKind.i64.wrap (((JS l).length : Int) - IntKind.i64.wrap (zi 0 - zi 0)) = ((JS l).length : Int) := by
  have : IntKind.i64.wrap (zi 0 - zi 0) = 0 := by decide
  rw [this, wrap_i64 (by omega) (by omega)]; omega
 simp only [hw]
 refine (Ji (by simp <;> omega)).trans ?_
 cases he : (JS l).isEmpty with
 | true =>
  have he' : JS l = [] := by simpa using he
  refine (Ji (by simp [he'])).trans ?_
  have := Jlr (l.length + 1) (fun x0_2 x1_2 x2_2 => k (Res.mk (PV.ow 5 16 [] 0 x0_2 none) [] [Ent.vec false 5 x1_2 x2_2])) nl fl l hl hs hn l.length 0 (l.length + 1) true [] (by omega) (by omega) (by simp) (fun _ => he'.symm)
  refine this.trans ?_
  simp [he']
 | false =>
  have he' : JS l ≠ [] := by simpa using he
  have hpos : 0 < (JS l).length := List.length_pos_iff.2 he'
  have hl0 : l.length ≠ 0 := by
   intro h; rw [List.length_eq_zero_iff] at h; subst h; simp at he'
  refine (Jc (by simp <;> omega)).trans ?_
  refine (Jc (by simp [Jk] <;> omega)).trans ?_
  have := Jlr (l.length + 1) (fun x0_2 x1_2 x2_2 => k (Res.mk (PV.ow 5 16 [] 0 x0_2 none) [] [Ent.vec false 5 x1_2 x2_2])) nl fl l hl hs hn l.length 0 (l.length + 1) (((JS l).length : Int) == 0) (List.replicate (((JS l).length : Int)).toNat (PV.sc (Value.int IntKind.u8 0))) (by omega) (by omega) (by simp) (fun h => absurd h hl0)
  refine this.trans ?_
  have hz : (((JS l).length : Int) == 0) = false := by simp [he']
  rw [hz]; rfl
theorem Jvk : Jg tau Try.prog 70 Jvj := JgV Jp Jhh Jq Jvh Jvi (fun n => Jn4 (JbI n) (JbJ n)) [] 0 [] Jhi (fun n => Jze n) fun xs es k res hr => by
 unfold Jhi at hr
 split at hr
 · rename_i nl fl l
   obtain ⟨hc, hr⟩ := JE hr
   simp only [Bool.and_eq_true, decide_eq_true_eq] at hc
   refine ⟨rfl, l.length + 1, 0, (e70 _ _ _ _ _).trans ?_⟩
   rw [JrY _ _ _ _ hc.1 hc.2.1 hc.2.2]; exact hr
 · cases hr




def Jqa : Fns := F0
theorem Jls : Jy tau Try.prog Jqa := JD
def Jd9 : An := (.seq .leaf (.seq (.seq .leaf (.cond (.seq .leaf .leaf) .leaf)) (.seq .leaf .leaf)))
def Jqb (f : Nat) (s_z s_f : Bool) (s : List PV) (k : Res -> Option Res) : Option Res := bif s_z then k (Res.mk (.ro 5 true true []) [] []) else bif Jk (0 + s.length) 1 && true then k (Res.mk (.ow 5 16 [] 0 (0 + s.length) none) [] [.vec false 5 false s]) else none
theorem Jvl (f : Nat) (s_z s_f : Bool) (s : List PV) (k : Res -> Option Res) : JQ tau Jqa Try.f131 (Try.f131.body.get!) Jd9 [] 0 [.ro 5 s_z s_f s] [] k = Jqb f s_z s_f s k := by kernel_rfl
theorem JrZ (f : Nat) : Jf (Try.f131.body.get!) Jd9 = [] := by kernel_rfl
theorem Jr0 (f : Nat) : ∀ q ∈ Jf (Try.f131.body.get!) Jd9, q.Ok tau Try.prog 0 := by
 rw [JrZ f]; intro q hq; cases hq
theorem Jlt : Try.prog.funcs[131]? = some Try.f131 := by kernel_rfl
theorem Jlu : Try.f131.body = some (Try.f131.body.get!) := by kernel_rfl
theorem Jr1 : Enters Try.prog 131 := enters_of Jlt (by kernel_rfl) Jlu
def Jea : List PV -> List Ent -> (Res -> Option Res) -> Option Res
 | [.ro 5 s_z s_f s], [], k => Jqb 0 s_z s_f s k
 | _, _, _ => none
def Jqc : Sig := { own := [], run := Jea }
theorem Jr2 : Jg tau Try.prog 131 Jqc := J0 Jp Jls Jq Jlt Jlu Jd9 [] 0 [] Jea (Jr0 0) fun xs es k res hr => by
 unfold Jea at hr
 split at hr
 · exact ⟨rfl, 0, (Jvl 0 _ _ _  _).trans hr⟩
 · cases hr
def F97 : Fns := JH 131 Jqc (F0)
theorem Jr3 : Jy tau Try.prog F97 := (JD).add Jr2 Jr1
def Jr4 : Nm := [(0, .any), (1, .any), (5, .own), (6, .any)]
def Jvm : An := (.seq .leaf (.seq .leaf (.seq .leaf (.seq .leaf (.seq (.seq .leaf (.seq .leaf (.cond .leaf .leaf))) (.seq .leaf .leaf))))))
def Jn7 : An := (.seq .leaf (.scope Jr4 Jvm))
def g97 (f : Nat) (b_z b_f : Bool) (b : List PV) (n : Int) (k : Res -> Option Res) : Option Res := bif b_z then k (Res.mk (.ro 5 false false [.sc (.int .u8 (IntKind.u8.wrap (JL IntKind.u64 (IntKind.u64.wrap n) (IntKind.i64.wrap (8 * 0))))), .sc (.int .u8 (IntKind.u8.wrap (JL IntKind.u64 (IntKind.u64.wrap n) (IntKind.i64.wrap (8 * IntKind.i64.wrap (0 + 1)))))), .sc (.int .u8 (IntKind.u8.wrap (JL IntKind.u64 (IntKind.u64.wrap n) (IntKind.i64.wrap (8 * IntKind.i64.wrap (IntKind.i64.wrap (0 + 1) + 1)))))), .sc (.int .u8 (IntKind.u8.wrap (JL IntKind.u64 (IntKind.u64.wrap n) (IntKind.i64.wrap (8 * IntKind.i64.wrap (IntKind.i64.wrap (IntKind.i64.wrap (0 + 1) + 1) + 1)))))), .sc (.int .u8 (IntKind.u8.wrap (JL IntKind.u64 (IntKind.u64.wrap n) (IntKind.i64.wrap (8 * IntKind.i64.wrap (IntKind.i64.wrap (IntKind.i64.wrap (IntKind.i64.wrap (0 + 1) + 1) + 1) + 1)))))), .sc (.int .u8 (IntKind.u8.wrap (JL IntKind.u64 (IntKind.u64.wrap n) (IntKind.i64.wrap (8 * IntKind.i64.wrap (IntKind.i64.wrap (IntKind.i64.wrap (IntKind.i64.wrap (IntKind.i64.wrap (0 + 1) + 1) + 1) + 1) + 1)))))), .sc (.int .u8 (IntKind.u8.wrap (JL IntKind.u64 (IntKind.u64.wrap n) (IntKind.i64.wrap (8 * IntKind.i64.wrap (IntKind.i64.wrap (IntKind.i64.wrap (IntKind.i64.wrap (IntKind.i64.wrap (IntKind.i64.wrap (0 + 1) + 1) + 1) + 1) + 1) + 1)))))), .sc (.int .u8 (IntKind.u8.wrap (JL IntKind.u64 (IntKind.u64.wrap n) (IntKind.i64.wrap (8 * IntKind.i64.wrap (IntKind.i64.wrap (IntKind.i64.wrap (IntKind.i64.wrap (IntKind.i64.wrap (IntKind.i64.wrap (IntKind.i64.wrap (0 + 1) + 1) + 1) + 1) + 1) + 1) + 1))))))]) [] []) else bif Jk (0 + b.length) 1 && true then bif Jk (0 + b.length + 1) 1 && true then bif Jk (0 + b.length + 1 + 1) 1 && true then bif Jk (0 + b.length + 1 + 1 + 1) 1 && true then bif Jk (0 + b.length + 1 + 1 + 1 + 1) 1 && true then bif Jk (0 + b.length + 1 + 1 + 1 + 1 + 1) 1 && true then bif Jk (0 + b.length + 1 + 1 + 1 + 1 + 1 + 1) 1 && true then bif Jk (0 + b.length + 1 + 1 + 1 + 1 + 1 + 1 + 1) 1 && true then bif Jk (0 + b.length + 1 + 1 + 1 + 1 + 1 + 1 + 1 + 1) 1 && true then bif Jk (0 + (List.take (0 + b.length + 1 + 1 + 1 + 1 + 1 + 1 + 1 + 1) (List.take (0 + b.length + 1 + 1 + 1 + 1 + 1 + 1 + 1) (List.take (0 + b.length + 1 + 1 + 1 + 1 + 1 + 1) (List.take (0 + b.length + 1 + 1 + 1 + 1 + 1) (List.take (0 + b.length + 1 + 1 + 1 + 1) (List.take (0 + b.length + 1 + 1 + 1) (List.take (0 + b.length + 1 + 1) (List.take (0 + b.length + 1) (List.take (0 + b.length) b ++ [.sc (.int .u8 (IntKind.u8.wrap (JL IntKind.u64 (IntKind.u64.wrap n) (IntKind.i64.wrap (8 * 0)))))]) ++ [.sc (.int .u8 (IntKind.u8.wrap (JL IntKind.u64 (IntKind.u64.wrap n) (IntKind.i64.wrap (8 * IntKind.i64.wrap (0 + 1))))))]) ++ [.sc (.int .u8 (IntKind.u8.wrap (JL IntKind.u64 (IntKind.u64.wrap n) (IntKind.i64.wrap (8 * IntKind.i64.wrap (IntKind.i64.wrap (0 + 1) + 1))))))]) ++ [.sc (.int .u8 (IntKind.u8.wrap (JL IntKind.u64 (IntKind.u64.wrap n) (IntKind.i64.wrap (8 * IntKind.i64.wrap (IntKind.i64.wrap (IntKind.i64.wrap (0 + 1) + 1) + 1))))))]) ++ [.sc (.int .u8 (IntKind.u8.wrap (JL IntKind.u64 (IntKind.u64.wrap n) (IntKind.i64.wrap (8 * IntKind.i64.wrap (IntKind.i64.wrap (IntKind.i64.wrap (IntKind.i64.wrap (0 + 1) + 1) + 1) + 1))))))]) ++ [.sc (.int .u8 (IntKind.u8.wrap (JL IntKind.u64 (IntKind.u64.wrap n) (IntKind.i64.wrap (8 * IntKind.i64.wrap (IntKind.i64.wrap (IntKind.i64.wrap (IntKind.i64.wrap (IntKind.i64.wrap (0 + 1) + 1) + 1) + 1) + 1))))))]) ++ [.sc (.int .u8 (IntKind.u8.wrap (JL IntKind.u64 (IntKind.u64.wrap n) (IntKind.i64.wrap (8 * IntKind.i64.wrap (IntKind.i64.wrap (IntKind.i64.wrap (IntKind.i64.wrap (IntKind.i64.wrap (IntKind.i64.wrap (0 + 1) + 1) + 1) + 1) + 1) + 1))))))]) ++ [.sc (.int .u8 (IntKind.u8.wrap (JL IntKind.u64 (IntKind.u64.wrap n) (IntKind.i64.wrap (8 * IntKind.i64.wrap (IntKind.i64.wrap (IntKind.i64.wrap (IntKind.i64.wrap (IntKind.i64.wrap (IntKind.i64.wrap (IntKind.i64.wrap (0 + 1) + 1) + 1) + 1) + 1) + 1) + 1))))))])).length) 1 && true then k (Res.mk (.ro 5 false false (List.take (0 + (List.take (0 + b.length + 1 + 1 + 1 + 1 + 1 + 1 + 1 + 1) (List.take (0 + b.length + 1 + 1 + 1 + 1 + 1 + 1 + 1) (List.take (0 + b.length + 1 + 1 + 1 + 1 + 1 + 1) (List.take (0 + b.length + 1 + 1 + 1 + 1 + 1) (List.take (0 + b.length + 1 + 1 + 1 + 1) (List.take (0 + b.length + 1 + 1 + 1) (List.take (0 + b.length + 1 + 1) (List.take (0 + b.length + 1) (List.take (0 + b.length) b ++ [.sc (.int .u8 (IntKind.u8.wrap (JL IntKind.u64 (IntKind.u64.wrap n) (IntKind.i64.wrap (8 * 0)))))]) ++ [.sc (.int .u8 (IntKind.u8.wrap (JL IntKind.u64 (IntKind.u64.wrap n) (IntKind.i64.wrap (8 * IntKind.i64.wrap (0 + 1))))))]) ++ [.sc (.int .u8 (IntKind.u8.wrap (JL IntKind.u64 (IntKind.u64.wrap n) (IntKind.i64.wrap (8 * IntKind.i64.wrap (IntKind.i64.wrap (0 + 1) + 1))))))]) ++ [.sc (.int .u8 (IntKind.u8.wrap (JL IntKind.u64 (IntKind.u64.wrap n) (IntKind.i64.wrap (8 * IntKind.i64.wrap (IntKind.i64.wrap (IntKind.i64.wrap (0 + 1) + 1) + 1))))))]) ++ [.sc (.int .u8 (IntKind.u8.wrap (JL IntKind.u64 (IntKind.u64.wrap n) (IntKind.i64.wrap (8 * IntKind.i64.wrap (IntKind.i64.wrap (IntKind.i64.wrap (IntKind.i64.wrap (0 + 1) + 1) + 1) + 1))))))]) ++ [.sc (.int .u8 (IntKind.u8.wrap (JL IntKind.u64 (IntKind.u64.wrap n) (IntKind.i64.wrap (8 * IntKind.i64.wrap (IntKind.i64.wrap (IntKind.i64.wrap (IntKind.i64.wrap (IntKind.i64.wrap (0 + 1) + 1) + 1) + 1) + 1))))))]) ++ [.sc (.int .u8 (IntKind.u8.wrap (JL IntKind.u64 (IntKind.u64.wrap n) (IntKind.i64.wrap (8 * IntKind.i64.wrap (IntKind.i64.wrap (IntKind.i64.wrap (IntKind.i64.wrap (IntKind.i64.wrap (IntKind.i64.wrap (0 + 1) + 1) + 1) + 1) + 1) + 1))))))]) ++ [.sc (.int .u8 (IntKind.u8.wrap (JL IntKind.u64 (IntKind.u64.wrap n) (IntKind.i64.wrap (8 * IntKind.i64.wrap (IntKind.i64.wrap (IntKind.i64.wrap (IntKind.i64.wrap (IntKind.i64.wrap (IntKind.i64.wrap (IntKind.i64.wrap (0 + 1) + 1) + 1) + 1) + 1) + 1) + 1))))))])).length) (List.take (0 + b.length + 1 + 1 + 1 + 1 + 1 + 1 + 1 + 1) (List.take (0 + b.length + 1 + 1 + 1 + 1 + 1 + 1 + 1) (List.take (0 + b.length + 1 + 1 + 1 + 1 + 1 + 1) (List.take (0 + b.length + 1 + 1 + 1 + 1 + 1) (List.take (0 + b.length + 1 + 1 + 1 + 1) (List.take (0 + b.length + 1 + 1 + 1) (List.take (0 + b.length + 1 + 1) (List.take (0 + b.length + 1) (List.take (0 + b.length) b ++ [.sc (.int .u8 (IntKind.u8.wrap (JL IntKind.u64 (IntKind.u64.wrap n) (IntKind.i64.wrap (8 * 0)))))]) ++ [.sc (.int .u8 (IntKind.u8.wrap (JL IntKind.u64 (IntKind.u64.wrap n) (IntKind.i64.wrap (8 * IntKind.i64.wrap (0 + 1))))))]) ++ [.sc (.int .u8 (IntKind.u8.wrap (JL IntKind.u64 (IntKind.u64.wrap n) (IntKind.i64.wrap (8 * IntKind.i64.wrap (IntKind.i64.wrap (0 + 1) + 1))))))]) ++ [.sc (.int .u8 (IntKind.u8.wrap (JL IntKind.u64 (IntKind.u64.wrap n) (IntKind.i64.wrap (8 * IntKind.i64.wrap (IntKind.i64.wrap (IntKind.i64.wrap (0 + 1) + 1) + 1))))))]) ++ [.sc (.int .u8 (IntKind.u8.wrap (JL IntKind.u64 (IntKind.u64.wrap n) (IntKind.i64.wrap (8 * IntKind.i64.wrap (IntKind.i64.wrap (IntKind.i64.wrap (IntKind.i64.wrap (0 + 1) + 1) + 1) + 1))))))]) ++ [.sc (.int .u8 (IntKind.u8.wrap (JL IntKind.u64 (IntKind.u64.wrap n) (IntKind.i64.wrap (8 * IntKind.i64.wrap (IntKind.i64.wrap (IntKind.i64.wrap (IntKind.i64.wrap (IntKind.i64.wrap (0 + 1) + 1) + 1) + 1) + 1))))))]) ++ [.sc (.int .u8 (IntKind.u8.wrap (JL IntKind.u64 (IntKind.u64.wrap n) (IntKind.i64.wrap (8 * IntKind.i64.wrap (IntKind.i64.wrap (IntKind.i64.wrap (IntKind.i64.wrap (IntKind.i64.wrap (IntKind.i64.wrap (0 + 1) + 1) + 1) + 1) + 1) + 1))))))]) ++ [.sc (.int .u8 (IntKind.u8.wrap (JL IntKind.u64 (IntKind.u64.wrap n) (IntKind.i64.wrap (8 * IntKind.i64.wrap (IntKind.i64.wrap (IntKind.i64.wrap (IntKind.i64.wrap (IntKind.i64.wrap (IntKind.i64.wrap (IntKind.i64.wrap (0 + 1) + 1) + 1) + 1) + 1) + 1) + 1))))))])))) [] []) else none else none else none else none else none else none else none else none else none else none
theorem e97 (f : Nat) (b_z b_f : Bool) (b : List PV) (n : Int) (k : Res -> Option Res) : JQ tau F97 Try.f97 (Try.f97.body.get!) Jn7 [.ro] 12 [.ro 5 b_z b_f b, .sc (.int .i64 n)] [] k = g97 f b_z b_f b n k := by kernel_rfl
theorem Jzg (f : Nat) : Jf (Try.f97.body.get!) Jn7 = [] := by kernel_rfl
theorem Jzh (f : Nat) : ∀ q ∈ Jf (Try.f97.body.get!) Jn7, q.Ok tau Try.prog 0 := by
 rw [Jzg f]; intro q hq; cases hq
theorem Jvn : Try.prog.funcs[97]? = some Try.f97 := by kernel_rfl
theorem Jvo : Try.f97.body = some (Try.f97.body.get!) := by kernel_rfl
theorem Jzi : Enters Try.prog 97 := enters_of Jvn (by kernel_rfl) Jvo
def Jvp : Fns := F0
theorem Jn8 : Jy tau Try.prog Jvp := JD
def JiS : An := (.seq .leaf (.seq .leaf .leaf))
def Jzj (f : Nat) (n : Int) (k : Res -> Option Res) : Option Res := k (Res.mk (.ow 5 16 [] 0 1 none) [] [.vec false 5 false [.sc (.int .u8 (IntKind.u8.wrap n))]])
theorem Jzk (f : Nat) (n : Int) (k : Res -> Option Res) : JQ tau Jvp Try.f110 (Try.f110.body.get!) JiS [] 0 [.ro 5 true true [], .sc (.int .i64 n)] [] k = Jzj f n k := by kernel_rfl
theorem Jvq (f : Nat) : Jf (Try.f110.body.get!) JiS = [] := by kernel_rfl
theorem Jvr (f : Nat) : ∀ q ∈ Jf (Try.f110.body.get!) JiS, q.Ok tau Try.prog 0 := by
 rw [Jvq f]; intro q hq; cases hq
theorem Jqd : Try.prog.funcs[110]? = some Try.f110 := by kernel_rfl
theorem Jqe : Try.f110.body = some (Try.f110.body.get!) := by kernel_rfl
theorem Jqf : Enters Try.prog 110 := enters_of Jqd (by kernel_rfl) Jqe
def Jqg : Fns := F0
theorem Jlv : Jy tau Try.prog Jqg := JD
def Jeb : An := (.seq .leaf (.seq .leaf .leaf))
def Jlw (f : Nat) (nl : Bool) (l : List PV) (m : Nat) (n : Int) (k : Res -> Option Res) : Option Res := bif Jk (m + 1) 1 && true then k (Res.mk (.ow 5 16 [] 0 (m + 1) none) [.dead] [.vec false 5 (nl && false) (List.take m l ++ [.sc (.int .u8 (IntKind.u8.wrap n))])]) else none
theorem Jvs (f : Nat) (nl : Bool) (l : List PV) (m : Nat) (n : Int) (k : Res -> Option Res) : JQ tau Jqg Try.f110 (Try.f110.body.get!) Jeb [] 0 [.ow 5 0 [] 0 m none, .sc (.int .i64 n)] [.vec false 5 nl l] k = Jlw f nl l m n k := by kernel_rfl
theorem Jr5 (f : Nat) : Jf (Try.f110.body.get!) Jeb = [] := by kernel_rfl
theorem Jr6 (f : Nat) : ∀ q ∈ Jf (Try.f110.body.get!) Jeb, q.Ok tau Try.prog 1 := by
 rw [Jr5 f]; intro q hq; cases hq
theorem Jr7 : Try.prog.funcs[110]? = some Try.f110 := by kernel_rfl
theorem Jr8 : Try.f110.body = some (Try.f110.body.get!) := by kernel_rfl
def Jvt : Fns := F0
theorem Jn9 : Jy tau Try.prog Jvt := JD
def Joa : Nm := [(0, .own), (1, .any), (5, .any)]
def Jr9 : An := (.seq (.seq .leaf (.cond .leaf .leaf)) (.seq (.block none .leaf) .leaf))
def JiT : An := (.seq .leaf (.seq (.seq .leaf (.block none (.loop Joa Jr9))) (.seq .leaf .leaf)))
def Jvu (f : Nat) (n : Int) (k : Res -> Option Res) : Option Res := k (Res.mk (.ow 5 16 [] 0 8 none) [] [.vec false 5 false [.sc (.int .u8 (IntKind.u8.wrap (JL IntKind.u64 (IntKind.u64.wrap n) (IntKind.u64.wrap (8 * IntKind.u64.wrap 0))))), .sc (.int .u8 (IntKind.u8.wrap (JL IntKind.u64 (IntKind.u64.wrap n) (IntKind.u64.wrap (8 * IntKind.u64.wrap (IntKind.i64.wrap (0 + 1))))))), .sc (.int .u8 (IntKind.u8.wrap (JL IntKind.u64 (IntKind.u64.wrap n) (IntKind.u64.wrap (8 * IntKind.u64.wrap (IntKind.i64.wrap (IntKind.i64.wrap (0 + 1) + 1))))))), .sc (.int .u8 (IntKind.u8.wrap (JL IntKind.u64 (IntKind.u64.wrap n) (IntKind.u64.wrap (8 * IntKind.u64.wrap (IntKind.i64.wrap (IntKind.i64.wrap (IntKind.i64.wrap (0 + 1) + 1) + 1))))))), .sc (.int .u8 (IntKind.u8.wrap (JL IntKind.u64 (IntKind.u64.wrap n) (IntKind.u64.wrap (8 * IntKind.u64.wrap (IntKind.i64.wrap (IntKind.i64.wrap (IntKind.i64.wrap (IntKind.i64.wrap (0 + 1) + 1) + 1) + 1))))))), .sc (.int .u8 (IntKind.u8.wrap (JL IntKind.u64 (IntKind.u64.wrap n) (IntKind.u64.wrap (8 * IntKind.u64.wrap (IntKind.i64.wrap (IntKind.i64.wrap (IntKind.i64.wrap (IntKind.i64.wrap (IntKind.i64.wrap (0 + 1) + 1) + 1) + 1) + 1))))))), .sc (.int .u8 (IntKind.u8.wrap (JL IntKind.u64 (IntKind.u64.wrap n) (IntKind.u64.wrap (8 * IntKind.u64.wrap (IntKind.i64.wrap (IntKind.i64.wrap (IntKind.i64.wrap (IntKind.i64.wrap (IntKind.i64.wrap (IntKind.i64.wrap (0 + 1) + 1) + 1) + 1) + 1) + 1))))))), .sc (.int .u8 (IntKind.u8.wrap (JL IntKind.u64 (IntKind.u64.wrap n) (IntKind.u64.wrap (8 * IntKind.u64.wrap (IntKind.i64.wrap (IntKind.i64.wrap (IntKind.i64.wrap (IntKind.i64.wrap (IntKind.i64.wrap (IntKind.i64.wrap (IntKind.i64.wrap (0 + 1) + 1) + 1) + 1) + 1) + 1) + 1)))))))]])
theorem Jzl (f : Nat) (n : Int) (k : Res -> Option Res) : JQ tau Jvt Try.f108 (Try.f108.body.get!) JiT [] 12 [.ro 5 true true [], .sc (.int .i64 n)] [] k = Jvu f n k := by kernel_rfl
theorem Jvv (f : Nat) : Jf (Try.f108.body.get!) JiT = [] := by kernel_rfl
theorem Jvw (f : Nat) : ∀ q ∈ Jf (Try.f108.body.get!) JiT, q.Ok tau Try.prog 0 := by
 rw [Jvv f]; intro q hq; cases hq
theorem Jqh : Try.prog.funcs[108]? = some Try.f108 := by kernel_rfl
theorem Jqi : Try.f108.body = some (Try.f108.body.get!) := by kernel_rfl
theorem JiU : Enters Try.prog 108 := enters_of Jqh (by kernel_rfl) Jqi
def Jqj : Fns := F0
theorem Jlx : Jy tau Try.prog Jqj := JD
def Jly : Nm := [(0, .own), (1, .any), (5, .any)]
def Job : An := (.seq (.seq .leaf (.cond .leaf .leaf)) (.seq (.block none .leaf) .leaf))
def Jec : An := (.seq .leaf (.seq (.seq .leaf (.block none (.loop Jly Job))) (.seq .leaf .leaf)))
def Jlz (f : Nat) (nl : Bool) (l : List PV) (m : Nat) (n : Int) (k : Res -> Option Res) : Option Res := bif Jk (m + 1) 1 && true then bif Jk (m + 1 + 1) 1 && true then bif Jk (m + 1 + 1 + 1) 1 && true then bif Jk (m + 1 + 1 + 1 + 1) 1 && true then bif Jk (m + 1 + 1 + 1 + 1 + 1) 1 && true then bif Jk (m + 1 + 1 + 1 + 1 + 1 + 1) 1 && true then bif Jk (m + 1 + 1 + 1 + 1 + 1 + 1 + 1) 1 && true then bif Jk (m + 1 + 1 + 1 + 1 + 1 + 1 + 1 + 1) 1 && true then k (Res.mk (.ow 5 16 [] 0 (m + 1 + 1 + 1 + 1 + 1 + 1 + 1 + 1) none) [.dead] [.vec false 5 (nl && false && false && false && false && false && false && false && false) (List.take (m + 1 + 1 + 1 + 1 + 1 + 1 + 1) (List.take (m + 1 + 1 + 1 + 1 + 1 + 1) (List.take (m + 1 + 1 + 1 + 1 + 1) (List.take (m + 1 + 1 + 1 + 1) (List.take (m + 1 + 1 + 1) (List.take (m + 1 + 1) (List.take (m + 1) (List.take m l ++ [.sc (.int .u8 (IntKind.u8.wrap (JL IntKind.u64 (IntKind.u64.wrap n) (IntKind.u64.wrap (8 * IntKind.u64.wrap 0)))))]) ++ [.sc (.int .u8 (IntKind.u8.wrap (JL IntKind.u64 (IntKind.u64.wrap n) (IntKind.u64.wrap (8 * IntKind.u64.wrap (IntKind.i64.wrap (0 + 1)))))))]) ++ [.sc (.int .u8 (IntKind.u8.wrap (JL IntKind.u64 (IntKind.u64.wrap n) (IntKind.u64.wrap (8 * IntKind.u64.wrap (IntKind.i64.wrap (IntKind.i64.wrap (0 + 1) + 1)))))))]) ++ [.sc (.int .u8 (IntKind.u8.wrap (JL IntKind.u64 (IntKind.u64.wrap n) (IntKind.u64.wrap (8 * IntKind.u64.wrap (IntKind.i64.wrap (IntKind.i64.wrap (IntKind.i64.wrap (0 + 1) + 1) + 1)))))))]) ++ [.sc (.int .u8 (IntKind.u8.wrap (JL IntKind.u64 (IntKind.u64.wrap n) (IntKind.u64.wrap (8 * IntKind.u64.wrap (IntKind.i64.wrap (IntKind.i64.wrap (IntKind.i64.wrap (IntKind.i64.wrap (0 + 1) + 1) + 1) + 1)))))))]) ++ [.sc (.int .u8 (IntKind.u8.wrap (JL IntKind.u64 (IntKind.u64.wrap n) (IntKind.u64.wrap (8 * IntKind.u64.wrap (IntKind.i64.wrap (IntKind.i64.wrap (IntKind.i64.wrap (IntKind.i64.wrap (IntKind.i64.wrap (0 + 1) + 1) + 1) + 1) + 1)))))))]) ++ [.sc (.int .u8 (IntKind.u8.wrap (JL IntKind.u64 (IntKind.u64.wrap n) (IntKind.u64.wrap (8 * IntKind.u64.wrap (IntKind.i64.wrap (IntKind.i64.wrap (IntKind.i64.wrap (IntKind.i64.wrap (IntKind.i64.wrap (IntKind.i64.wrap (0 + 1) + 1) + 1) + 1) + 1) + 1)))))))]) ++ [.sc (.int .u8 (IntKind.u8.wrap (JL IntKind.u64 (IntKind.u64.wrap n) (IntKind.u64.wrap (8 * IntKind.u64.wrap (IntKind.i64.wrap (IntKind.i64.wrap (IntKind.i64.wrap (IntKind.i64.wrap (IntKind.i64.wrap (IntKind.i64.wrap (IntKind.i64.wrap (0 + 1) + 1) + 1) + 1) + 1) + 1) + 1)))))))])]) else none else none else none else none else none else none else none else none
theorem Jvx (f : Nat) (nl : Bool) (l : List PV) (m : Nat) (n : Int) (k : Res -> Option Res) : JQ tau Jqj Try.f108 (Try.f108.body.get!) Jec [] 12 [.ow 5 0 [] 0 m none, .sc (.int .i64 n)] [.vec false 5 nl l] k = Jlz f nl l m n k := by kernel_rfl
theorem Jsa (f : Nat) : Jf (Try.f108.body.get!) Jec = [] := by kernel_rfl
theorem Jsb (f : Nat) : ∀ q ∈ Jf (Try.f108.body.get!) Jec, q.Ok tau Try.prog 1 := by
 rw [Jsa f]; intro q hq; cases hq
theorem Jsc : Try.prog.funcs[108]? = some Try.f108 := by kernel_rfl
theorem Jsd : Try.f108.body = some (Try.f108.body.get!) := by kernel_rfl
def Jqk : Fns := F0
theorem JlA : Jy tau Try.prog Jqk := JD
def Jed : An := (.seq .leaf (.seq (.seq .leaf (.cond .leaf .leaf)) (.seq .leaf .leaf)))
def JlB (f : Nat) (nl : Bool) (l : List PV) (m : Nat) (s : ByteArray) (k : Res -> Option Res) : Option Res := bif decide (zi s.size > 65535) then bif decide (65535 <= s.size) && true then bif Jk (m + 2) 1 && true then bif Jk (m + 2 + (Jn (s.extract 0 65535)).length) 1 && true then k (Res.mk (.ow 5 16 [] 0 (m + 2 + (Jn (s.extract 0 65535)).length) none) [.dead] [.vec false 5 (nl && false && (Jn (s.extract 0 65535)).isEmpty) (List.take (m + 2) (List.take m l ++ [.sc (.int .u8 (IntKind.u8.wrap (zi (s.extract 0 65535).size))), .sc (.int .u8 (IntKind.u8.wrap (JL IntKind.i64 (zi (s.extract 0 65535).size) 8)))]) ++ Jn (s.extract 0 65535))]) else none else none else none else bif Jk (m + 2) 1 && true then bif Jk (m + 2 + (Jn s).length) 1 && true then k (Res.mk (.ow 5 16 [] 0 (m + 2 + (Jn s).length) none) [.dead] [.vec false 5 (nl && false && (Jn s).isEmpty) (List.take (m + 2) (List.take m l ++ [.sc (.int .u8 (IntKind.u8.wrap (zi s.size))), .sc (.int .u8 (IntKind.u8.wrap (JL IntKind.i64 (zi s.size) 8)))]) ++ Jn s)]) else none else none
theorem Jvy (f : Nat) (nl : Bool) (l : List PV) (m : Nat) (s : ByteArray) (k : Res -> Option Res) : JQ tau Jqk Try.f109 (Try.f109.body.get!) Jed [] 0 [.ow 5 0 [] 0 m none, .sc (.string s)] [.vec false 5 nl l] k = JlB f nl l m s k := by kernel_rfl
theorem Jse (f : Nat) : Jf (Try.f109.body.get!) Jed = [] := by kernel_rfl
theorem Jsf (f : Nat) : ∀ q ∈ Jf (Try.f109.body.get!) Jed, q.Ok tau Try.prog 1 := by
 rw [Jse f]; intro q hq; cases hq
theorem JlC : Try.prog.funcs[109]? = some Try.f109 := by kernel_rfl
theorem JlD : Try.f109.body = some (Try.f109.body.get!) := by kernel_rfl
theorem Jsg : Enters Try.prog 109 := enters_of JlC (by kernel_rfl) JlD
end
end Go.Proofs.Ytcklhipdldpkhaa.Rx
