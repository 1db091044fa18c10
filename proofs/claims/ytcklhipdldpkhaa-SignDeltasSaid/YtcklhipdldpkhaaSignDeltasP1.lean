/- What the functions of this law compute, and their plain laws. Conditions: none. -/
import Derived.Test.YtcklhipdldpkhaaProg
import Derived.Test.YtcklhipdldpkhaaSignDeltasZ4
namespace Go.Proofs.Ytcklhipdldpkhaa.Rx
noncomputable section
open Go
set_option linter.unusedVariables false
set_option linter.unusedSimpArgs false
set_option maxRecDepth 100000
set_option maxHeartbeats 0
def tys : List TypeId := [1, 2, 3, 4, 5, 9, 12, 21, 22, 23, 24, 25, 26, 28, 29, 30, 31, 32, 33, 34, 35, 36, 37, 38, 39, 40, 41, 42, 43, 44, 45, 46, 47, 48, 49, 50, 51, 52, 53, 54, 55, 56, 57, 58, 59, 60, 62, 64, 65, 66, 67, 68, 69, 70, 71, 72, 73, 74, 75, 76, 77, 78, 79, 81, 82, 83, 85, 86, 87, 88, 89, 90, 91, 92, 93, 94, 95, 96, 97, 98, 99, 100, 101, 102, 103, 104, 105, 106, 107, 109, 110, 111, 112, 113, 114, 115, 116, 117, 118, 119, 120, 121, 122, 123, 124, 125, 126, 128, 129, 130, 131, 132, 133, 134, 135, 136, 137, 138, 139, 140, 141, 142, 143, 144, 145, 146, 147, 148, 149, 150, 151, 152, 153, 155, 156, 157, 158, 160, 161, 162, 163, 164, 165, 166, 167, 168, 170, 172, 173, 174, 176, 177, 184, 185, 186, 187, 188, 189, 190, 191, 192, 193, 195, 196, 197, 198, 200, 202, 203, 204, 205, 206, 207, 208, 209, 212, 213]
def JDD : TypeId -> Option PV := fun t =>
 bif t == 1 then some (.sc .nilFunc) else
 bif t == 2 then some (.sc (.int .i64 0)) else
 bif t == 3 then some (.sc (.int .i64 0)) else
 bif t == 4 then some (.sc (.bool false)) else
 bif t == 5 then some (.sc (.int .u8 0)) else
 bif t == 9 then some (.sc (.string ByteArray.empty)) else
 bif t == 12 then some (.sc (.int .u64 0)) else
 bif t == 21 then some (.sc (.int .i32 0)) else
 bif t == 22 then some (.ro 106 true true []) else
 bif t == 23 then some (.sc .nilFunc) else
 bif t == 24 then some (.sc .nilFunc) else
 bif t == 25 then some (.ro 93 true true []) else
 bif t == 26 then some (.ro 41 true true []) else
 bif t == 28 then some (.sc .nilFunc) else
 bif t == 29 then some (.ro 5 true true []) else
 bif t == 30 then some (.st 30 (List.replicate 3 (.ro 5 true true []))) else
 bif t == 31 then some (.st 31 (List.replicate 3 (.ro 5 true true []))) else
 bif t == 32 then some (.sc .nilFunc) else
 bif t == 33 then some (.st 33 [.sc (.int .i64 0), .sc (.int .i64 0)]) else
 bif t == 34 then some (.st 34 [.sc (.int .i64 0), .sc (.int .i64 0)]) else
 bif t == 35 then some (.ro 45 true true []) else
 bif t == 36 then some (.ar 36 (List.replicate 32 (.sc (.int .u8 0)))) else
 bif t == 37 then some (.ar 37 (List.replicate 32 (.sc (.int .u8 0)))) else
 bif t == 38 then some (.st 38 [.st 34 [.sc (.int .i64 0), .sc (.int .i64 0)], .sc (.string ByteArray.empty), .ro 45 true true [], .sc (.int .i64 0), .ar 37 (List.replicate 32 (.sc (.int .u8 0)))]) else
 bif t == 39 then some (.st 39 [.st 34 [.sc (.int .i64 0), .sc (.int .i64 0)], .sc (.string ByteArray.empty), .ro 45 true true [], .sc (.int .i64 0), .ar 37 (List.replicate 32 (.sc (.int .u8 0)))]) else
 bif t == 40 then some (.sc .nilFunc) else
 bif t == 41 then some (.st 41 [.st 34 [.sc (.int .i64 0), .sc (.int .i64 0)], .sc (.string ByteArray.empty), .ro 45 true true [], .sc (.int .i64 0), .ar 37 (List.replicate 32 (.sc (.int .u8 0)))]) else
 bif t == 42 then some (.sc .nilFunc) else
 bif t == 43 then some (.sc .nilFunc) else
 bif t == 44 then some (.st 44 [.sc (.int .i64 0), .sc (.int .i64 0)]) else
 bif t == 45 then some (.st 45 [.sc (.int .i64 0), .sc (.int .i64 0)]) else
 bif t == 46 then some (.sc .nilFunc) else
 bif t == 47 then some (.ro 29 true true []) else
 bif t == 48 then some (.sc .nilFunc) else
 bif t == 49 then some (.sc .nilFunc) else
 bif t == 50 then some (.sc .nilFunc) else
 bif t == 51 then some (.sc .nilFunc) else
 bif t == 52 then some (.sc .nilFunc) else
 bif t == 53 then some (.st 53 [.sc (.int .i64 0), .sc (.int .i64 0), .sc (.int .i64 0), .st 34 [.sc (.int .i64 0), .sc (.int .i64 0)], .st 45 [.sc (.int .i64 0), .sc (.int .i64 0)], .sc (.int .i64 0), .sc (.int .i64 0), .st 45 [.sc (.int .i64 0), .sc (.int .i64 0)], .sc (.int .i64 0), .sc (.int .i64 0), .ro 29 true true []]) else
 bif t == 54 then some (.st 54 [.sc (.int .i64 0), .sc (.int .i64 0), .sc (.int .i64 0), .st 34 [.sc (.int .i64 0), .sc (.int .i64 0)], .st 45 [.sc (.int .i64 0), .sc (.int .i64 0)], .sc (.int .i64 0), .sc (.int .i64 0), .st 45 [.sc (.int .i64 0), .sc (.int .i64 0)], .sc (.int .i64 0), .sc (.int .i64 0), .ro 29 true true []]) else
 bif t == 55 then some (.ro 3 true true []) else
 bif t == 56 then some (.sc .nilFunc) else
 bif t == 57 then some (.sc .nilFunc) else
 bif t == 58 then some (.sc .nilFunc) else
 bif t == 59 then some (.sc .nilFunc) else
 bif t == 60 then some (.sc (.int .i64 0)) else
 bif t == 62 then some (.sc .nilFunc) else
 bif t == 64 then some (.sc .nilFunc) else
 bif t == 65 then some (.sc .nilFunc) else
 bif t == 66 then some (.sc .nilFunc) else
 bif t == 67 then some (.sc .nilFunc) else
 bif t == 68 then some (.sc .nilFunc) else
 bif t == 69 then some (.sc .nilFunc) else
 bif t == 70 then some (.ro 99 true true []) else
 bif t == 71 then some (.ro 99 true true []) else
 bif t == 72 then some (.st 72 [.st 45 [.sc (.int .i64 0), .sc (.int .i64 0)], .sc (.int .i64 0), .sc (.int .i64 0), .ar 37 (List.replicate 32 (.sc (.int .u8 0))), .sc (.int .i64 0), .ro 99 true true [], .st 45 [.sc (.int .i64 0), .sc (.int .i64 0)]]) else
 bif t == 73 then some (.st 73 [.st 45 [.sc (.int .i64 0), .sc (.int .i64 0)], .sc (.int .i64 0), .sc (.int .i64 0), .ar 37 (List.replicate 32 (.sc (.int .u8 0))), .sc (.int .i64 0), .ro 99 true true [], .st 45 [.sc (.int .i64 0), .sc (.int .i64 0)]]) else
 bif t == 74 then some (.sc .nilFunc) else
 bif t == 75 then some (.sc .nilFunc) else
 bif t == 76 then some (.st 76 [.ro 5 true true [], .ar 37 (List.replicate 32 (.sc (.int .u8 0)))]) else
 bif t == 77 then some (.st 77 [.ro 5 true true [], .ar 37 (List.replicate 32 (.sc (.int .u8 0)))]) else
 bif t == 78 then some (.sc .nilFunc) else
 bif t == 79 then some (.sc .nilFunc) else
 bif t == 81 then some (.sc .nilFunc) else
 bif t == 82 then some (.sc .nilFunc) else
 bif t == 83 then some (.ro 31 true true []) else
 bif t == 85 then some (.sc .nilFunc) else
 bif t == 86 then some (.sc .nilFunc) else
 bif t == 87 then some (.sc .nilFunc) else
 bif t == 88 then some (.sc .nilFunc) else
 bif t == 89 then some (.sc .nilFunc) else
 bif t == 90 then some (.sc .nilFunc) else
 bif t == 91 then some (.sc .nilFunc) else
 bif t == 92 then some (.st 92 [.st 77 [.ro 5 true true [], .ar 37 (List.replicate 32 (.sc (.int .u8 0)))], .sc (.int .i64 0), .ro 99 true true [], .ar 37 (List.replicate 32 (.sc (.int .u8 0))), .ar 37 (List.replicate 32 (.sc (.int .u8 0)))]) else
 bif t == 93 then some (.st 93 [.st 77 [.ro 5 true true [], .ar 37 (List.replicate 32 (.sc (.int .u8 0)))], .sc (.int .i64 0), .ro 99 true true [], .ar 37 (List.replicate 32 (.sc (.int .u8 0))), .ar 37 (List.replicate 32 (.sc (.int .u8 0)))]) else
 bif t == 94 then some (.sc .nilFunc) else
 bif t == 95 then some (.sc .nilFunc) else
 bif t == 96 then some (.sc .nilFunc) else
 bif t == 97 then some (.sc .nilFunc) else
 bif t == 98 then some (.st 98 [.sc (.int .i64 0), .sc (.int .i64 0), .sc (.string ByteArray.empty)]) else
 bif t == 99 then some (.st 99 [.sc (.int .i64 0), .sc (.int .i64 0), .sc (.string ByteArray.empty)]) else
 bif t == 100 then some (.sc .nilFunc) else
 bif t == 101 then some (.sc .nilFunc) else
 bif t == 102 then some (.sc .nilFunc) else
 bif t == 103 then some (.sc .nilFunc) else
 bif t == 104 then some (.sc .nilFunc) else
 bif t == 105 then some (.st 105 [.sc (.int .i64 0), .sc (.int .i64 0), .sc (.int .i64 0), .ro 3 true true []]) else
 bif t == 106 then some (.st 106 [.sc (.int .i64 0), .sc (.int .i64 0), .sc (.int .i64 0), .ro 3 true true []]) else
 bif t == 107 then some (.sc .nilFunc) else
 bif t == 109 then some (.sc .nilFunc) else
 bif t == 110 then some (.sc .nilFunc) else
 bif t == 111 then some (.sc (.int .u32 0)) else
 bif t == 112 then some (.ar 112 (List.replicate 8 (.sc (.int .u32 0)))) else
 bif t == 113 then some (.ar 113 (List.replicate 8 (.sc (.int .u32 0)))) else
 bif t == 114 then some (.sc .nilFunc) else
 bif t == 115 then some (.sc .nilFunc) else
 bif t == 116 then some (.sc .nilFunc) else
 bif t == 117 then some (.sc .nilFunc) else
 bif t == 118 then some (.ar 118 (List.replicate 64 (.sc (.int .u32 0)))) else
 bif t == 119 then some (.sc .nilFunc) else
 bif t == 120 then some (.sc (.int .u64 0)) else
 bif t == 121 then some (.sc (.int .u64 0)) else
 bif t == 122 then some (.sc .nilFunc) else
 bif t == 123 then some (.sc .nilFunc) else
 bif t == 124 then some (.sc .nilFunc) else
 bif t == 125 then some (.sc (.pointer none)) else
 bif t == 126 then some (.sc .nilFunc) else
 bif t == 128 then some (.sc .nilFunc) else
 bif t == 129 then some (.sc .nilFunc) else
 bif t == 130 then some (.sc .nilFunc) else
 bif t == 131 then some (.sc .nilFunc) else
 bif t == 132 then some (.sc .nilFunc) else
 bif t == 133 then some (.sc (.pointer none)) else
 bif t == 134 then some (.sc .nilFunc) else
 bif t == 135 then some (.sc .nilFunc) else
 bif t == 136 then some (.sc .nilFunc) else
 bif t == 137 then some (.st 137 [.ro 5 true true [], .sc (.int .i64 0), .sc (.int .i64 0)]) else
 bif t == 138 then some (.st 138 [.ro 5 true true [], .sc (.int .i64 0), .sc (.int .i64 0)]) else
 bif t == 139 then some (.sc .nilFunc) else
 bif t == 140 then some (.sc .nilFunc) else
 bif t == 141 then some (.sc .nilFunc) else
 bif t == 142 then some (.sc .nilFunc) else
 bif t == 143 then some (.sc .nilFunc) else
 bif t == 144 then some (.sc .nilFunc) else
 bif t == 145 then some (.ro 148 true true []) else
 bif t == 146 then some (.sc .nilFunc) else
 bif t == 147 then some (.sc (.pointer none)) else
 bif t == 148 then some (.sc (.pointer none)) else
 bif t == 149 then some (.sc .nilFunc) else
 bif t == 150 then some (.sc .nilFunc) else
 bif t == 151 then some (.sc .nilFunc) else
 bif t == 152 then some (.sc .nilFunc) else
 bif t == 153 then some (.sc .nilFunc) else
 bif t == 155 then some (.sc .nilFunc) else
 bif t == 156 then some (.sc .nilFunc) else
 bif t == 157 then some (.sc .nilFunc) else
 bif t == 158 then some (.sc .nilFunc) else
 bif t == 160 then some (.sc .nilFunc) else
 bif t == 161 then some (.sc .nilFunc) else
 bif t == 162 then some (.sc .nilFunc) else
 bif t == 163 then some (.sc (.complex .f64 0 0)) else
 bif t == 164 then some (.sc (.float .f64 0)) else
 bif t == 165 then some (.ro 163 true true []) else
 bif t == 166 then some (.sc .nilFunc) else
 bif t == 167 then some (.sc .nilFunc) else
 bif t == 168 then some (.sc .nilFunc) else
 bif t == 170 then some (.sc .nilFunc) else
 bif t == 172 then some (.sc .nilFunc) else
 bif t == 173 then some (.sc .nilFunc) else
 bif t == 174 then some (.sc .nilFunc) else
 bif t == 176 then some (.sc .nilFunc) else
 bif t == 177 then some (.sc .nilFunc) else
 bif t == 184 then some (.sc .nilFunc) else
 bif t == 185 then some (.st 185 [.ro 5 true true [], .sc (.int .i64 0)]) else
 bif t == 186 then some (.st 186 [.ro 5 true true [], .sc (.int .i64 0)]) else
 bif t == 187 then some (.sc .nilFunc) else
 bif t == 188 then some (.sc .nilFunc) else
 bif t == 189 then some (.ar 189 (List.replicate 64 (.sc (.int .u8 0)))) else
 bif t == 190 then some (.ar 190 (List.replicate 64 (.sc (.int .u8 0)))) else
 bif t == 191 then some (.sc .nilFunc) else
 bif t == 192 then some (.sc .nilFunc) else
 bif t == 193 then some (.sc .nilFunc) else
 bif t == 195 then some (.sc .nilFunc) else
 bif t == 196 then some (.sc .nilFunc) else
 bif t == 197 then some (.sc .nilFunc) else
 bif t == 198 then some (.sc .nilFunc) else
 bif t == 200 then some (.sc .nilFunc) else
 bif t == 202 then some (.sc .nilFunc) else
 bif t == 203 then some (.sc (.pointer none)) else
 bif t == 204 then some (.sc .nilFunc) else
 bif t == 205 then some (.sc .nilFunc) else
 bif t == 206 then some (.sc .nilFunc) else
 bif t == 207 then some (.sc .nilFunc) else
 bif t == 208 then some (.sc .nilFunc) else
 bif t == 209 then some (.sc .nilFunc) else
 bif t == 212 then some (.sc .nilFunc) else
 bif t == 213 then some (.sc .nilFunc) else
 none
def tau : Tab := Gh Try.prog tys JDD
theorem Jq : TabOk tau Try.prog := Jl7 (by kernel_rfl)
theorem Jr : Try.prog.follows .mixedOrders = true := by kernel_rfl
def F0 : Fns := fun _ => none
theorem JB : Ju tau Try.prog F0 := fun g sg h => by cases h
def F21 : Fns := F0
theorem Juo : Ju tau Try.prog F21 := JB
def JoS : An := (.seq .leaf (.seq .leaf (.seq .leaf .leaf)))
def g21 (f : Nat) (b_z b_f : Bool) (b : List PV) (k : Res -> Option Res) : Option Res := bif decide (0 <= J6 (zi b.length) 60) && true && decide ((J6 (zi b.length) 60).toNat <= b.length) && true then bif Jl (2 + (List.take (J6 (zi b.length) 60).toNat b).length) 1 && true then bif Jl (2 + (List.take (J6 (zi b.length) 60).toNat b).length) 1 && true then bif Jl (2 + (List.take (J6 (zi b.length) 60).toNat b).length) 1 && true then k (Res.mk (.st 31 [.ro 5 false false (List.take (2 + (List.take (J6 (zi b.length) 60).toNat b).length) (.sc (.int .u8 107) :: .sc (.int .u8 48) :: id (List.take (J6 (zi b.length) 60).toNat b))), .ro 5 false false (List.take (2 + (List.take (J6 (zi b.length) 60).toNat b).length) (.sc (.int .u8 107) :: .sc (.int .u8 49) :: id (List.take (J6 (zi b.length) 60).toNat b))), .ro 5 false false (List.take (2 + (List.take (J6 (zi b.length) 60).toNat b).length) (.sc (.int .u8 107) :: .sc (.int .u8 50) :: id (List.take (J6 (zi b.length) 60).toNat b)))]) [] []) else none else none else none else none
theorem e21 (f : Nat) (b_z b_f : Bool) (b : List PV) (k : Res -> Option Res) : JN tau F21 Try.f21 (Try.f21.body.get!) JoS [.ro] 0 [.ro 5 b_z b_f b] [] k = g21 f b_z b_f b k := by kernel_rfl
theorem JDE (f : Nat) : Je (Try.f21.body.get!) JoS = [] := by kernel_rfl
theorem JDF (f : Nat) : ∀ q ∈ Je (Try.f21.body.get!) JoS, q.Ok tau Try.prog 0 := by
 rw [JDE f]; intro q hq; cases hq
theorem Jxt : Try.prog.funcs[21]? = some Try.f21 := by kernel_rfl
theorem Jxu : Try.f21.body = some (Try.f21.body.get!) := by kernel_rfl
theorem Jxv : Enters Try.prog 21 := enters_of Jxt (by kernel_rfl) Jxu
def Jma : List PV -> List Ent -> (Res -> Option Res) -> Option Res
 | [.ro 5 b_z b_f b], [], k => g21 0 b_z b_f b k
 | _, _, _ => none
def s21 : Sig := { own := [], run := Jma }
theorem JDG : Jf tau Try.prog 21 s21 := JP Jq Juo Jr Jxt Jxu JoS [.ro] 0 [] Jma (JDF 0) fun xs es k res hr => by
 unfold Jma at hr
 split at hr
 · exact ⟨rfl, 0, (e21 0 _ _ _  _).trans hr⟩
 · cases hr

-- FN law16.within
def okW : Int -> Bool := hid fun n => decide (0 < n) && decide (n < 1000000000000)
theorem Ze (n : Int) : okW n = (decide (0 < n) && decide (n < 1000000000000)) := by rw [okW, hid_eq]


def Jxw : Fns := F0
theorem JoT : Ju tau Try.prog Jxw := JB
def Jjv : An := (.seq .leaf (.seq (.seq .leaf (.cond (.seq .leaf .leaf) .leaf)) (.seq .leaf .leaf)))
def JoU (f : Nat) (s_z s_f : Bool) (s : List PV) (k : Res -> Option Res) : Option Res := bif s_z then k (Res.mk (.ro 5 true true []) [] []) else bif Jl (0 + s.length) 1 && true then k (Res.mk (.ro 5 false false (List.take (0 + s.length) s)) [] []) else none
theorem JDH (f : Nat) (s_z s_f : Bool) (s : List PV) (k : Res -> Option Res) : JN tau Jxw Try.f131 (Try.f131.body.get!) Jjv [.ro] 0 [.ro 5 s_z s_f s] [] k = JoU f s_z s_f s k := by kernel_rfl
theorem Jxx (f : Nat) : Je (Try.f131.body.get!) Jjv = [] := by kernel_rfl
theorem Jxy (f : Nat) : ∀ q ∈ Je (Try.f131.body.get!) Jjv, q.Ok tau Try.prog 0 := by
 rw [Jxx f]; intro q hq; cases hq
theorem JrH : Try.prog.funcs[131]? = some Try.f131 := by kernel_rfl
theorem JrI : Try.f131.body = some (Try.f131.body.get!) := by kernel_rfl
theorem Jxz : Enters Try.prog 131 := enters_of JrH (by kernel_rfl) JrI
def JhN : List PV -> List Ent -> (Res -> Option Res) -> Option Res
 | [.ro 5 s_z s_f s], [], k => JoU 0 s_z s_f s k
 | _, _, _ => none
def JDI : Sig := { own := [], run := JhN }
theorem JxA : Jf tau Try.prog 131 JDI := JP Jq JoT Jr JrH JrI Jjv [.ro] 0 [] JhN (Jxy 0) fun xs es k res hr => by
 unfold JhN at hr
 split at hr
 · exact ⟨rfl, 0, (JDH 0 _ _ _  _).trans hr⟩
 · cases hr
-- FN slices.Clone[[]byte,byte]
def slB (z : Bool) (l : List PV) : Bool := (!z || l.isEmpty) && Nat.ble l.length 1000000000
theorem Wd {z : Bool} {l : List PV} : slB z l = true ↔ (z = true -> l = []) /\ l.length <= 1000000000 := by
 simp only [slB, Bool.and_eq_true, Nat.ble_eq, Bool.or_eq_true, Bool.not_eq_true', List.isEmpty_iff]
 cases z <;> simp
def Jeu : List PV -> List Ent -> (Res -> Option Res) -> Option Res
 | [.ro 5 z f l], [], k => bif slB z l then k ⟨.ro 5 z z l, [], []⟩ else none
 | _, _, _ => none
def JrJ : Sig := { own := [], run := Jeu }
theorem Jup : Jf tau Try.prog 131 JrJ := JxA.of fun xs es k res hr => by
 change Jeu xs es k = some res at hr
 unfold Jeu at hr
 split at hr
 · rename_i z f l
   obtain ⟨hc, hr⟩ := JG hr
   obtain ⟨h1, h2⟩ := Wd.1 hc
   show JoU 0 z f l k = some res
   unfold JoU
   cases z with
   | true => obtain rfl := h1 rfl; exact hr
   | false =>
    rw [cond_false, Jb (by simp [Jl]; omega)]
    simp only [Nat.zero_add, List.nil_append, List.take_length]
    exact hr
 · cases hr
def F76 : Fns := JC 131 JrJ (F0)
theorem Juq : Ju tau Try.prog F76 := (JB).add Jup Jxz
def JoV : An := (.seq .leaf (.seq .leaf .leaf))
def g76 (f : Nat) (b_z b_f : Bool) (b : List PV) (k : Res -> Option Res) : Option Res := bif slB b_z b then k (Res.mk (.ptr 16 []) [] [.box false 186 (PV.st 186 [.ro 5 b_z b_z b, .sc (.int .i64 0)])]) else none
theorem e76 (f : Nat) (b_z b_f : Bool) (b : List PV) (k : Res -> Option Res) : JN tau F76 Try.f76 (Try.f76.body.get!) JoV [.any] 0 [.ro 5 b_z b_f b] [] k = g76 f b_z b_f b k := by kernel_rfl
theorem JDJ (f : Nat) : Je (Try.f76.body.get!) JoV = [] := by kernel_rfl
theorem JDK (f : Nat) : ∀ q ∈ Je (Try.f76.body.get!) JoV, q.Ok tau Try.prog 0 := by
 rw [JDJ f]; intro q hq; cases hq
theorem JxB : Try.prog.funcs[76]? = some Try.f76 := by kernel_rfl
theorem JxC : Try.f76.body = some (Try.f76.body.get!) := by kernel_rfl
theorem JxD : Enters Try.prog 76 := enters_of JxB (by kernel_rfl) JxC
def Jmb : List PV -> List Ent -> (Res -> Option Res) -> Option Res
 | [.ro 5 b_z b_f b], [], k => g76 0 b_z b_f b k
 | _, _, _ => none
def s76 : Sig := { own := [], run := Jmb }
theorem JxE : Jf tau Try.prog 76 s76 := JP Jq Juq Jr JxB JxC JoV [.any] 0 [] Jmb (JDK 0) fun xs es k res hr => by
 unfold Jmb at hr
 split at hr
 · exact ⟨rfl, 0, (e76 0 _ _ _  _).trans hr⟩
 · cases hr

def JxF : Fns := F0
theorem JoW : Ju tau Try.prog JxF := JB
def Jjw : An := (.seq .leaf (.cond .leaf .leaf))
def JxG (f : Nat) (y0 y1 : Bool) (r_b : List PV) (r_e e : Int) (k : Res -> Option Res) : Option Res := bif r_e == 0 then k (Res.mk (.tup []) [.box false 186 (PV.st 186 [.ro 5 y0 y1 r_b, .sc (.int .i64 e)])] []) else k (Res.mk (.tup []) [.box false 186 (PV.st 186 [.ro 5 y0 y1 r_b, .sc (.int .i64 r_e)])] [])
theorem JDL (f : Nat) (y0 y1 : Bool) (r_b : List PV) (r_e e : Int) (k : Res -> Option Res) : JN tau JxF Try.f134 (Try.f134.body.get!) Jjw [] 0 [.ptr 0 [], .sc (.int .i64 e)] [.box false 186 (.st 186 [.ro 5 y0 y1 r_b, .sc (.int .i64 r_e)])] k = JxG f y0 y1 r_b r_e e k := by kernel_rfl
theorem JxH (f : Nat) : Je (Try.f134.body.get!) Jjw = [] := by kernel_rfl
theorem JxI (f : Nat) : ∀ q ∈ Je (Try.f134.body.get!) Jjw, q.Ok tau Try.prog 1 := by
 rw [JxH f]; intro q hq; cases hq
theorem JrK : Try.prog.funcs[134]? = some Try.f134 := by kernel_rfl
theorem JrL : Try.f134.body = some (Try.f134.body.get!) := by kernel_rfl
theorem JrM : Enters Try.prog 134 := enters_of JrK (by kernel_rfl) JrL
def JhO : List PV -> List Ent -> (Res -> Option Res) -> Option Res
 | [.ptr 0 [], .sc (.int .i64 e)], [.box false 186 (.st 186 [.ro 5 y0 y1 r_b, .sc (.int .i64 r_e)])], k => JxG 0 y0 y1 r_b r_e e k
 | _, _, _ => none
def Jur : Sig := { own := [], run := JhO }
theorem JrN : Jf tau Try.prog 134 Jur := JP Jq JoW Jr JrK JrL Jjw [] 1 [] JhO (JxI 0) fun xs es k res hr => by
 unfold JhO at hr
 split at hr
 · exact ⟨rfl, 0, (JDL 0 _ _ _ _ _  _).trans hr⟩
 · cases hr
def JxJ : Fns := JC 134 Jur (F0)
theorem JoX : Ju tau Try.prog JxJ := (JB).add JrN JrM
def Jjx : An := (.seq .leaf (.seq (.seq .leaf (.cond .leaf .leaf)) (.seq (.seq .leaf (.cond (.seq .leaf .leaf) .leaf)) (.seq .leaf (.seq .leaf (.seq .leaf .leaf))))))
def JoY (f : Nat) (y0 y1 : Bool) (r_b : List PV) (r_e n : Int) (k : Res -> Option Res) : Option Res := bif decide (n > zi r_b.length) then bif r_e == 0 then k (Res.mk (.ro 5 true true []) [.box false 186 (PV.st 186 [.ro 5 y0 y1 r_b, .sc (.int .i64 8)])] []) else bif r_e != 0 then k (Res.mk (.ro 5 true true []) [.box false 186 (PV.st 186 [.ro 5 y0 y1 r_b, .sc (.int .i64 r_e)])] []) else bif decide (0 <= n) && true && decide (n.toNat <= r_b.length) && true then bif decide (0 <= n) && true && decide (n.toNat <= r_b.length) && decide (r_b.length <= r_b.length) && true then k (Res.mk (.ro 5 y0 (y0 || y1 && false) (List.take n.toNat r_b)) [.box false 186 (PV.st 186 [.ro 5 y0 (y0 || y1 && true) (List.drop n.toNat (List.take r_b.length r_b)), .sc (.int .i64 r_e)])] []) else none else none else bif r_e != 0 then k (Res.mk (.ro 5 true true []) [.box false 186 (PV.st 186 [.ro 5 y0 y1 r_b, .sc (.int .i64 r_e)])] []) else bif decide (0 <= n) && true && decide (n.toNat <= r_b.length) && true then bif decide (0 <= n) && true && decide (n.toNat <= r_b.length) && decide (r_b.length <= r_b.length) && true then k (Res.mk (.ro 5 y0 (y0 || y1 && false) (List.take n.toNat r_b)) [.box false 186 (PV.st 186 [.ro 5 y0 (y0 || y1 && true) (List.drop n.toNat (List.take r_b.length r_b)), .sc (.int .i64 r_e)])] []) else none else none
theorem JDM (f : Nat) (y0 y1 : Bool) (r_b : List PV) (r_e n : Int) (k : Res -> Option Res) : JN tau JxJ Try.f156 (Try.f156.body.get!) Jjx [.ro] 0 [.ptr 0 [], .sc (.int .i64 n)] [.box false 186 (.st 186 [.ro 5 y0 y1 r_b, .sc (.int .i64 r_e)])] k = JoY f y0 y1 r_b r_e n k := by kernel_rfl
theorem JxK (f : Nat) : Je (Try.f156.body.get!) Jjx = [] := by kernel_rfl
theorem JxL (f : Nat) : ∀ q ∈ Je (Try.f156.body.get!) Jjx, q.Ok tau Try.prog 1 := by
 rw [JxK f]; intro q hq; cases hq
theorem JrO : Try.prog.funcs[156]? = some Try.f156 := by kernel_rfl
theorem JrP : Try.f156.body = some (Try.f156.body.get!) := by kernel_rfl
theorem JrQ : Enters Try.prog 156 := enters_of JrO (by kernel_rfl) JrP
def JhP : List PV -> List Ent -> (Res -> Option Res) -> Option Res
 | [.ptr 0 [], .sc (.int .i64 n)], [.box false 186 (.st 186 [.ro 5 y0 y1 r_b, .sc (.int .i64 r_e)])], k => JoY 0 y0 y1 r_b r_e n k
 | _, _, _ => none
def JDN : Sig := { own := [], run := JhP }
theorem JxM : Jf tau Try.prog 156 JDN := JP Jq JoX Jr JrO JrP Jjx [.ro] 1 [] JhP (JxL 0) fun xs es k res hr => by
 unfold JhP at hr
 split at hr
 · exact ⟨rfl, 0, (JDM 0 _ _ _ _ _  _).trans hr⟩
 · cases hr
structure RS where
 b : List PV
 e : Int
def byB (l : List PV) : Bool := l.all fun p => p.isInt .u8 && (decide (0 <= p.int) && decide (p.int < 256))
def QM : List Int -> Int
 | [] => 0
 | x :: r => x + 256 * QM r
def WE (n : Nat) (s : RS) : Bool := s.e == 0 && Nat.ble n s.b.length
def J1 (n : Nat) (s : RS) : RS := bif WE n s then ⟨s.b.drop n, 0⟩ else ⟨s.b, bif s.e == 0 then 8 else s.e⟩
def J0 (n : Nat) (s : RS) : List PV := bif WE n s then s.b.take n else []
def QK (n : Nat) (s : RS) : Int := IntKind.i64.wrap (QM (Ji (J0 n s)))
def okS : Nat -> RS -> Bool := hid WE
def Qz : Nat -> RS -> List PV := hid J0
theorem JhQ (n : Nat) (s : RS) : okS n s = WE n s := by rw [okS, hid_eq]
theorem Yi (n : Nat) (s : RS) : Qz n s = J0 n s := by rw [Qz, hid_eq]
def Jc : Nat -> RS -> RS := hid J1
def Jw : Nat -> RS -> Int := hid QK
theorem We (n : Nat) (s : RS) : Jc n s = J1 n s := by rw [Jc, hid_eq]
theorem WS (n : Nat) (s : RS) : Jw n s = QK n s := by rw [Jw, hid_eq]
def Jdm (s : RS) : RS := J1 (QK 2 s).toNat (J1 2 s)
def Gi (s : RS) : ByteArray := ⟨(Jp (J0 (QK 2 s).toNat (J1 2 s))).toArray⟩
def J9 : RS -> RS := hid Jdm
def JS : RS -> ByteArray := hid Gi
theorem Gj (s : RS) : J9 s = Jdm s := by rw [J9, hid_eq]
theorem Jbn (s : RS) : JS s = Gi s := by rw [JS, hid_eq]
theorem Qo {l : List PV} : byB l = true ↔ Jh .u8 l = true /\ ∀ x ∈ Ji l, 0 <= x /\ x < 256 := by
 induction l with
 | nil => simp [byB, Jh, Ji]
 | cons p ps ih =>
  have e1 : byB (p :: ps) = ((p.isInt .u8 && (decide (0 <= p.int) && decide (p.int < 256))) && byB ps) := rfl
  have e2 : Ji (p :: ps) = p.int :: Ji ps := rfl
  have e3 : Jh .u8 (p :: ps) = (p.isInt .u8 && Jh .u8 ps) := rfl
  rw [e1, e2, e3]
  simp only [Bool.and_eq_true, decide_eq_true_eq, List.mem_cons, forall_eq_or_imp, ih]
  constructor
  · rintro ⟨⟨h1, h2⟩, h3, h4⟩
    exact ⟨⟨h1, h3⟩, h2, h4⟩
  · rintro ⟨⟨h1, h3⟩, h2, h4⟩
    exact ⟨⟨h1, h2⟩, h3, h4⟩
theorem Jmc {l : List PV} (h : byB l = true) (n : Nat) : byB (l.take n) = true := List.all_eq_true.2 fun p hp => List.all_eq_true.1 h p (List.mem_of_mem_take hp)
theorem Jf6 {l : List PV} (h : byB l = true) (n : Nat) : byB (l.drop n) = true := List.all_eq_true.2 fun p hp => List.all_eq_true.1 h p (List.mem_of_mem_drop hp)
theorem Jmd {l : List Int} : byB (pu .u8 l) = true ↔ ∀ x ∈ l, 0 <= x /\ x < 256 := by rw [Qo]; simp
theorem X1 {s : RS} (h : byB s.b = true) (n : Nat) : byB (J1 n s).b = true := by
 unfold J1; cases WE n s
 · exact h
 · exact Jf6 h n
theorem Yj {s : RS} (h : byB s.b = true) (n : Nat) : byB (J0 n s) = true := by
 unfold J0; cases WE n s
 · rfl
 · exact Jmc h n
theorem Wt (n : Nat) (s : RS) : (J0 n s).length <= n := by
 unfold J0; cases WE n s
 · exact Nat.zero_le _
 · simp; omega
theorem Xu : ∀ (l : List Int), (∀ x ∈ l, 0 <= x /\ x < 256) -> 0 <= QM l /\ QM l < 256 ^ l.length
 | [], h => by simp [QM]
 | x :: r, h => by
  have h1 := h x List.mem_cons_self
  have h2 := Xu r fun y hy => h y (List.mem_cons_of_mem _ hy)
  simp only [QM, List.length_cons, Int.pow_succ]
  generalize (256 : Int) ^ r.length = B at *
  omega
theorem Xl {s : RS} (h : byB s.b = true) {n : Nat} (hn : n <= 2) : 0 <= QK n s /\ QK n s < 65536 := by
 have h1 := Xu (Ji (J0 n s)) (Qo.1 (Yj h n)).2
 have h2 : (Ji (J0 n s)).length <= 2 := by rw [Qx]; exact Nat.le_trans (Wt n s) hn
 have h3 : (256 : Int) ^ (Ji (J0 n s)).length <= 65536 := by
  generalize (Ji (J0 n s)).length = m at *
  match m, h2 with
  | 0, _ => decide
  | 1, _ => decide
  | 2, _ => decide
 unfold QK
 rw [wrap_i64 (by omega) (by omega)]; omega
structure RT where
 B : List PV
 P : Int
 e : Int
def RT.view (t : RT) : RS := ⟨t.B.drop t.P.toNat, t.e⟩
def okT (t : RT) : Bool := decide (0 <= t.P) && (decide (t.P <= (t.B.length : Int)) && (byB t.B && Nat.ble t.B.length 1000000000))
def QG (n : Nat) (t : RT) : RT := bif WE n t.view then ⟨t.B, ((t.P.toNat + n : Nat) : Int), 0⟩ else ⟨t.B, t.P, bif t.e == 0 then 8 else t.e⟩
def Ja : Nat -> RT -> RT := hid QG
def Jy : Nat -> RT -> Int := hid fun n t => QK n t.view
def Gk (t : RT) : RT := QG (QK 2 t.view).toNat (QG 2 t)
def J3 : RT -> RT := hid Gk
def JM : RT -> ByteArray := hid fun t => Gi t.view
theorem WF (n : Nat) (t : RT) : Ja n t = QG n t := by rw [Ja, hid_eq]
theorem Jbo (n : Nat) (t : RT) : Jy n t = QK n t.view := by rw [Jy, hid_eq]
theorem Jev (t : RT) : J3 t = Gk t := by rw [J3, hid_eq]
theorem Jf7 (t : RT) : JM t = Gi t.view := by rw [JM, hid_eq]
theorem X2 (n : Nat) (t : RT) : (QG n t).view = J1 n t.view := by
 unfold QG J1
 cases WE n t.view with
 | true => simp only [cond_true, RT.view, Int.toNat_natCast, List.drop_drop]
 | false => simp only [cond_false, RT.view]
theorem Jme (t : RT) : (Gk t).view = Jdm t.view := by simp only [Gk, Jdm, X2]
@[simp] theorem Wf (n : Nat) (t : RT) : Jy n t = Jw n t.view := by rw [Jbo, WS]
@[simp] theorem Qe (n : Nat) (t : RT) : (Ja n t).view = Jc n t.view := by rw [WF, We, X2]
@[simp] theorem Jdn (t : RT) : (J3 t).view = J9 t.view := by rw [Jev, Gj, Jme]
@[simp] theorem Jdo (t : RT) : JM t = JS t.view := by rw [Jf7, Jbn]
theorem Zf {t : RT} (h : okT t = true) (n : Nat) : okT (QG n t) = true := by
 have h' := h
 simp only [okT, Bool.and_eq_true, decide_eq_true_eq, Nat.ble_eq] at h ⊢
 unfold QG
 cases hk : WE n t.view with
 | true =>
  simp only [cond_true]
  have hn : n <= (t.B.drop t.P.toNat).length := by
   simp only [WE, RT.view, Bool.and_eq_true, Nat.ble_eq] at hk; exact hk.2
  rw [List.length_drop] at hn
  refine ⟨by omega, by omega, h.2.2⟩
 | false => exact h
theorem JoZ {t : RT} (h : okT t = true) : okT (Gk t) = true := Zf (Zf h _) _
@[simp] theorem Qv {t : RT} (h : okT t = true) (n : Nat) : okT (Ja n t) = true := by rw [WF]; exact Zf h n
@[simp] theorem Jf8 {t : RT} (h : okT t = true) : okT (J3 t) = true := by rw [Jev]; exact JoZ h
theorem Jmf {s : RS} (h : s.e ≠ 0) (n : Nat) : WE n s = false := by
 unfold WE
 have : (s.e == 0) = false := by simpa using h
 rw [this]; rfl
theorem Gl {s : RS} (h : s.e ≠ 0) (n : Nat) : J1 n s = s := by
 unfold J1
 have : (s.e == 0) = false := by simpa using h
 rw [Jmf h, cond_false, this, cond_false]
theorem Jlo {t : RT} (h : t.e ≠ 0) (n : Nat) : QG n t = t := by
 unfold QG
 have : (t.e == 0) = false := by simpa using h
 rw [Jmf (s := t.view) h, cond_false, this, cond_false]
-- FN (*code.Reader).take
abbrev rdP (z f : Bool) (s : RS) : Ent := .box false 186 (.st 186 [.ro 5 z f s.b, .sc (.int .i64 s.e)])
def Jew : List PV -> List Ent -> (Res -> Option Res) -> Option Res
 | [.ptr 0 [], .sc (.int .i64 n)], [.box false 186 (.st 186 [.ro 5 z f b, .sc (.int .i64 e)])], k =>
  bif (!z || f) && decide (0 <= n) then k ⟨.ro 5 (!okS n.toNat ⟨b, e⟩ || z) (!okS n.toNat ⟨b, e⟩ || z) (Qz n.toNat ⟨b, e⟩), [rdP z f (Jc n.toNat ⟨b, e⟩)], []⟩ else none
 | _, _, _ => none
def Jmg : Sig := { own := [], run := Jew }
theorem Jo0 (z f : Bool) (b : List PV) (e n : Int) (hz : (!z || f) = true) (hn : 0 <= n) (k : Res -> Option Res) :
   JoY 0 z f b e n k = k ⟨.ro 5 (!okS n.toNat ⟨b, e⟩ || z) (!okS n.toNat ⟨b, e⟩ || z) (Qz n.toNat ⟨b, e⟩), [rdP z f (Jc n.toNat ⟨b, e⟩)], []⟩ := by
 rw [JhQ, Yi, We]
 have hzf : (z || f) = f := by cases z <;> cases f <;> simp_all
 have hz2 : (z || f && false) = z := by cases z <;> cases f <;> rfl
 unfold JoY
 by_cases c1 : n > zi b.length
 · have hk : Nat.ble n.toNat b.length = false := by
     cases h : Nat.ble n.toNat b.length with
     | false => rfl
     | true => rw [Nat.ble_eq] at h; simp only [zi] at c1; omega
   rw [Jb (by simpa using c1)]
   by_cases c2 : e = 0
   · subst c2
     simp only [beq_self_eq_true, cond_true]
     simp [WE, J0, J1, hk]
   · have hb : (e == 0) = false := by simpa using c2
     have hb2 : (e != 0) = true := by simpa using c2
     simp only [hb, hb2, cond_true, cond_false]
     simp [WE, J0, J1, hb]
 · rw [Jv (by simpa using c1)]
   by_cases c2 : e = 0
   · subst c2
     have hk : Nat.ble n.toNat b.length = true := by rw [Nat.ble_eq]; simp only [zi] at c1; omega
     have hk' : n.toNat <= b.length := by rw [Nat.ble_eq] at hk; exact hk
     have h00 : ((0 : Int) != 0) = false := by decide
     simp only [h00, cond_false]
     rw [Jb (by simp; omega), Jb (by simp; omega)]
     simp [WE, J0, J1, hk, hzf, hz2]
   · have hb : (e == 0) = false := by simpa using c2
     have hb2 : (e != 0) = true := by simpa using c2
     simp only [hb2, cond_true]
     simp [WE, J0, J1, hb]
theorem Jmh : Jf tau Try.prog 156 Jmg := JxM.of fun xs es k res hr => by
 change Jew xs es k = some res at hr
 unfold Jew at hr
 split at hr
 · obtain ⟨hc, hr⟩ := JG hr
   simp only [Bool.and_eq_true, decide_eq_true_eq] at hc
   exact (Jo0 _ _ _ _ _ hc.1 hc.2 _).trans hr
 · cases hr
def JcO : Nat := 27
def Jmi : Fns := JC 156 Jmg (F0)
theorem Jjy : Ju tau Try.prog Jmi := (JB).add Jmh JrQ
def Jaf : Code := Qu (Try.f155.body.get!) [1, 1, 0, 1, 0, 0]
def WT : Nm := [(5, .any), (10, .any), (11, .any), (12, .any)]
def Xv : Nm := [(5, .any)]
def Jb1 : An := (.seq .leaf (.seq (.cond .leaf .leaf) (.seq (.block none (.seq .leaf .leaf)) .leaf)))
def Jjz (r0 : QJ) : An := (.seq .leaf (.seq .leaf (.seq (.seq .leaf (.block none (.sum WT JcO r0))) (.seq .leaf .leaf))))
def Zg (f : Nat) (rc : Int -> Bool -> Bool -> List PV -> Int -> Int -> Bool -> Bool -> List PV -> Int -> Option Res) (k0 : Int -> Bool -> Bool -> List PV -> Int -> Option Res) (v0 : Int) (v1 v2 : Bool) (v3 : List PV) (v4 v5 : Int) (v6 v7 : Bool) (v8 : List PV) (v9 : Int) : Option Res := bif decide (v5 < v4) then bif decide (0 <= v5) && decide (v5 < zi v3.length) && PV.isInt IntKind.u8 (v3.getD v5.toNat PV.top) && true then bif decide (0 <= IntKind.i64.wrap (8 * v5)) && true then rc (JH BinOp.or IntKind.u64 v0 (WN IntKind.u64 (IntKind.u64.wrap (v3.getD v5.toNat PV.top).int) (IntKind.i64.wrap (8 * v5)))) v1 v2 v3 v4 (IntKind.i64.wrap (v5 + 1)) v6 v7 v8 v9 else none else none else k0 v0 v6 v7 v8 v9
def Yk (f : Nat) (k0 : Int -> Bool -> Bool -> List PV -> Int -> Option Res) : Nat -> Int -> Bool -> Bool -> List PV -> Int -> Int -> Bool -> Bool -> List PV -> Int -> Option Res
 | 0, _, _, _, _, _, _, _, _, _, _ => none
 | n + 1, v0, v1, v2, v3, v4, v5, v6, v7, v8, v9 => Zg f (Yk f k0 n) k0 v0 v1 v2 v3 v4 v5 v6 v7 v8 v9
theorem Jmj (f : Nat) (k : Kont) (n : Nat) (v0 : Int) (v1 v2 : Bool) (v3 : List PV) (v4 v5 : Int) (v6 v7 : Bool) (v8 : List PV) (v9 : Int) : Jn tau 1 WT (fun s k => ev tau Jmi 1 0 Jaf (Jb1 ) s k) (n + 1) (Jd WT JcO [.sc (.int .u64 v0), .ro 5 v1 v2 v3, .sc (.int .i64 v4), .sc (.int .i64 v5)] [(0, .box false 186 (PV.st 186 [.ro 5 v6 v7 v8, .sc (.int .i64 v9)]))]) (Jt tau 1 Xv k) = Zg f (fun v0 v1 v2 v3 v4 v5 v6 v7 v8 v9 => Jn tau 1 WT (fun s k => ev tau Jmi 1 0 Jaf (Jb1 ) s k) n (Jd WT JcO [.sc (.int .u64 v0), .ro 5 v1 v2 v3, .sc (.int .i64 v4), .sc (.int .i64 v5)] [(0, .box false 186 (PV.st 186 [.ro 5 v6 v7 v8, .sc (.int .i64 v9)]))]) (Jt tau 1 Xv k)) (fun x0 x1 x2 x3 x4 => k (Ex.exit 0) (Jd Xv JcO [.sc (.int .u64 x0)] [(0, .box false 186 (PV.st 186 [.ro 5 x1 x2 x3, .sc (.int .i64 x4)]))])) v0 v1 v2 v3 v4 v5 v6 v7 v8 v9 := by kernel_rfl
theorem Jf9 (f : Nat) (k : Kont) : ∀ (n : Nat) (v0 : Int) (v1 v2 : Bool) (v3 : List PV) (v4 v5 : Int) (v6 v7 : Bool) (v8 : List PV) (v9 : Int), Jn tau 1 WT (fun s k => ev tau Jmi 1 0 Jaf (Jb1 ) s k) n (Jd WT JcO [.sc (.int .u64 v0), .ro 5 v1 v2 v3, .sc (.int .i64 v4), .sc (.int .i64 v5)] [(0, .box false 186 (PV.st 186 [.ro 5 v6 v7 v8, .sc (.int .i64 v9)]))]) (Jt tau 1 Xv k) = Yk f (fun x0 x1 x2 x3 x4 => k (Ex.exit 0) (Jd Xv JcO [.sc (.int .u64 x0)] [(0, .box false 186 (PV.st 186 [.ro 5 x1 x2 x3, .sc (.int .i64 x4)]))])) n v0 v1 v2 v3 v4 v5 v6 v7 v8 v9 | 0, _, _, _, _, _, _, _, _, _, _ => rfl | n + 1, v0, v1, v2, v3, v4, v5, v6, v7, v8, v9 => (Jmj f k n v0 v1 v2 v3 v4 v5 v6 v7 v8 v9).trans (congrArg (fun r => Zg f r (fun x0 x1 x2 x3 x4 => k (Ex.exit 0) (Jd Xv JcO [.sc (.int .u64 x0)] [(0, .box false 186 (PV.st 186 [.ro 5 x1 x2 x3, .sc (.int .i64 x4)]))])) v0 v1 v2 v3 v4 v5 v6 v7 v8 v9) (by funext v0 v1 v2 v3 v4 v5 v6 v7 v8 v9; exact Jf9 f k n v0 v1 v2 v3 v4 v5 v6 v7 v8 v9))
def VB (f : Nat) : List PV -> List (Nat × Ent) -> Kont -> Option Res
 | [.sc (.int .u64 v0), .ro 5 v1 v2 v3, .sc (.int .i64 v4),
 PV.sc
  (Value.int IntKind.i64
   v5)], [(0,
  Ent.box false 186
   (PV.st 186
    [.ro 5 v6 v7 v8,
     PV.sc
      (Value.int IntKind.i64
       v9)]))], k => Yk f (fun x0 x1 x2 x3 x4 => k (Ex.exit
 0) (Jd Xv JcO [.sc (.int .u64 x0)] [(0, .box false 186 (PV.st 186 [.ro 5 x1 x2 x3, .sc (.int .i64 x4)]))])) f v0 v1 v2 v3 v4 v5 v6 v7 v8 v9
 | _, _, _ => none
theorem Jo1 (f : Nat) : Je Jaf Jb1 = [] := by kernel_rfl
theorem Jus (f : Nat) : (Item.l Jaf WT JcO (VB f)).Ok tau Try.prog 1 := JI Jq Jjy Jr (x := Jb1) (nm2 := Xv) (Js _ _ (by rw [Jo1 f]; intro q hq; cases hq)) fun vs hp k res hr => by
 unfold VB at hr
 split at hr
 · exact ⟨f, 0, (Jf9 f _ f _ _ _ _ _ _ _ _ _ _ ).trans hr⟩
 · cases hr
def Jut (f : Nat) (y0 y1 : Bool) (r_b : List PV) (r_e n : Int) (k : Res -> Option Res) : Option Res := bif (!y0 || y1) && decide (0 <= n) then Yk f (fun x0_0 x1_0 x2_0 x3_0 x4_0 => k (Res.mk (.sc (.int .i64 (IntKind.i64.wrap x0_0))) [.box false 186 (PV.st 186 [.ro 5 x1_0 x2_0 x3_0, .sc (.int .i64 x4_0)])] [])) f (0) (!okS n.toNat (RS.mk r_b r_e) || y0) (!okS n.toNat (RS.mk r_b r_e) || y0) (Qz n.toNat (RS.mk r_b r_e)) (zi (Qz n.toNat (RS.mk r_b r_e)).length) (0) y0 y1 ((Jc n.toNat (RS.mk r_b r_e)).b) ((Jc n.toNat (RS.mk r_b r_e)).e) else none
theorem JDO (f : Nat) (y0 y1 : Bool) (r_b : List PV) (r_e n : Int) (k : Res -> Option Res) : JN tau Jmi Try.f155 (Try.f155.body.get!) (Jjz (VB f)) [.ro] 0 [.ptr 0 [], .sc (.int .i64 n)] [.box false 186 (.st 186 [.ro 5 y0 y1 r_b, .sc (.int .i64 r_e)])] k = Jut f y0 y1 r_b r_e n k := by kernel_rfl
theorem JxN (f : Nat) : Je (Try.f155.body.get!) (Jjz (VB f)) = [.l Jaf WT JcO (VB f)] := by kernel_rfl
theorem JxO (f : Nat) : ∀ q ∈ Je (Try.f155.body.get!) (Jjz (VB f)), q.Ok tau Try.prog 1 := by
 rw [JxN f]; simp only [List.forall_mem_cons, List.not_mem_nil, false_implies, implies_true, and_true]; exact Jus f
theorem JrR : Try.prog.funcs[155]? = some Try.f155 := by kernel_rfl
theorem JrS : Try.f155.body = some (Try.f155.body.get!) := by kernel_rfl
theorem Jmk : Enters Try.prog 155 := enters_of JrR (by kernel_rfl) JrS
-- FN (*code.Reader).number
theorem Jdp : ∀ (l : List Int) (x : Int), QM (l ++ [x]) = QM l + x * 256 ^ l.length
 | [], x => by simp [QM]
 | y :: r, x => by
  simp only [List.cons_append, QM, Jdp r x, List.length_cons, Int.pow_succ]
  have : x * (256 ^ r.length * 256) = 256 * (x * 256 ^ r.length) := by rw [Int.mul_comm 256, Int.mul_assoc]
  omega
theorem JhR (i : Nat) : (256 : Int) ^ i = 2 ^ (8 * i) := by rw [Int.pow_mul]; rfl
theorem Jga {v y : Int} {j : Nat} (hj : j <= 64) (hv0 : 0 <= v) (hv : v < 2 ^ j) (hy0 : 0 <= y) (hy : y * 2 ^ j < 2 ^ 64) : JH .or .u64 v (y * 2 ^ j) = v + y * 2 ^ j := by
 obtain ⟨a, rfl⟩ := Int.eq_ofNat_of_zero_le hv0
 obtain ⟨b, rfl⟩ := Int.eq_ofNat_of_zero_le hy0
 have e1 : ((b : Int)) * 2 ^ j = ((b * 2 ^ j : Nat) : Int) := by rw [Int.natCast_mul, Int.natCast_pow]; rfl
 have e2 : ((2 : Int)) ^ j = ((2 ^ j : Nat) : Int) := by rw [Int.natCast_pow]; rfl
 have e3 : ((2 : Int)) ^ 64 = ((2 ^ 64 : Nat) : Int) := by rw [Int.natCast_pow]; rfl
 rw [e2] at hv
 rw [e1, e3] at hy
 have ha : a < 2 ^ j := Int.ofNat_lt.1 hv
 have hb : b * 2 ^ j < 2 ^ 64 := Int.ofNat_lt.1 hy
 rw [e1]
 have hor : a ||| b * 2 ^ j = a + b * 2 ^ j := by
  have h := Nat.shiftLeft_add_eq_or_of_lt ha b
  rw [Nat.shiftLeft_eq] at h
  rw [Nat.or_comm, ← h, Nat.add_comm]
 have ha2 : a < 2 ^ 64 := Nat.lt_of_lt_of_le ha (Nat.pow_le_pow_right (by omega) hj)
 have hsum : a + b * 2 ^ j < 2 ^ 64 := by rw [← hor]; exact Nat.or_lt_two_pow ha2 hb
 generalize hc : b * 2 ^ j = c at *
 have ht : (BitVec.ofInt 64 (a : Int) ||| BitVec.ofInt 64 (c : Int)).toNat = a + c := by
  rw [BitVec.toNat_or, BitVec.ofInt_natCast, BitVec.ofInt_natCast, BitVec.toNat_ofNat, BitVec.toNat_ofNat, Nat.mod_eq_of_lt ha2, Nat.mod_eq_of_lt hb, hor]
 show IntKind.u64.wrap ((BitVec.ofInt 64 (a : Int) ||| BitVec.ofInt 64 (c : Int)).toNat : Int) = _
 rw [ht, Qy]
 have h64 : (2 : Nat) ^ 64 = 18446744073709551616 := by decide
 rw [h64] at hsum
 omega
theorem Jml {x : Int} (h0 : 0 <= x) (h1 : x < 256) {i : Nat} (hi : i < 8) : WN .u64 (IntKind.u64.wrap x) (8 * (i : Int)) = x * 2 ^ (8 * i) := by
 rw [Qy, Int.emod_eq_of_lt h0 (by omega), WN, Qy]
 have : min (8 * (i : Int)).toNat IntKind.u64.bits = 8 * i := by
  have : IntKind.u64.bits = 64 := rfl
  rw [this]; omega
 rw [this]
 have hp : (2 : Int) ^ (8 * i) <= 2 ^ 56 := by
  have h : (2 ^ (8 * i) : Nat) <= 2 ^ 56 := Nat.pow_le_pow_right (by omega) (by omega)
  have e2 : ((2 : Int)) ^ (8 * i) = ((2 ^ (8 * i) : Nat) : Int) := by rw [Int.natCast_pow]; rfl
  have e3 : ((2 : Int)) ^ 56 = ((2 ^ 56 : Nat) : Int) := by rw [Int.natCast_pow]; rfl
  rw [e2, e3]; exact Int.ofNat_le.2 h
 have hp0 : (0 : Int) <= 2 ^ (8 * i) := Int.le_of_lt (by
   have e2 : ((2 : Int)) ^ (8 * i) = ((2 ^ (8 * i) : Nat) : Int) := by rw [Int.natCast_pow]; rfl
   rw [e2]; exact Int.ofNat_lt.2 (Nat.two_pow_pos _))
 have h56 : (2 : Int) ^ 56 = 72057594037927936 := by decide
 rw [h56] at hp
 have hm : x * 2 ^ (8 * i) <= 255 * 2 ^ (8 * i) := Int.mul_le_mul_of_nonneg_right (by omega) hp0
 have hm0 : 0 <= x * 2 ^ (8 * i) := Int.mul_nonneg h0 hp0
 exact Int.emod_eq_of_lt hm0 (by omega)
theorem Jmm (L : List Int) (hL : ∀ x ∈ L, 0 <= x /\ x < 256) (h8 : L.length <= 8) (f : Nat) (k0 : Int -> Bool -> Bool -> List PV -> Int -> Option Res) (a b c d : Bool) (R : List PV) (e : Int) : ∀ (dd i n : Nat), i + dd = L.length -> dd < n ->
  Yk f k0 n (QM (L.take i)) a b (pu .u8 L) (L.length : Int) (i : Int) c d R e = k0 (QM L) c d R e
 | 0, i, n + 1, h, hn => by
   obtain rfl : i = L.length := by omega
   simp only [Yk, Zg, List.take_length]
   exact Jv (by simp)
 | dd + 1, i, n + 1, h, hn => by
   have g1 : ((i : Int)).toNat = i := by omega
   have h1 : IntKind.i64.wrap ((i : Int) + 1) = ((i + 1 : Nat) : Int) := by rw [wrap_i64 (by omega) (by omega)]; omega
   have h2 : IntKind.i64.wrap (8 * (i : Int)) = 8 * (i : Int) := wrap_i64 (by omega) (by omega)
   have hi : i < L.length := by omega
   have hx := hL (L.getD i 0) (by rw [List.getD_eq_getElem?_getD, List.getElem?_eq_getElem hi]; exact List.getElem_mem hi)
   simp only [Yk, Zg, g1, h1, h2]
   rw [JW hi, Qr hi]
   refine (Jb (by simp; omega)).trans ((Jb (by simp [zi]; omega)).trans ((Jb (by simp; omega)).trans ?_))
   have ht : L.take (i + 1) = L.take i ++ [L.getD i 0] := by
    rw [List.take_add_one, List.getD_eq_getElem?_getD, List.getElem?_eq_getElem hi]; rfl
   have hb := Xu (L.take i) fun x hx => hL x (List.mem_of_mem_take hx)
   have hlen : (L.take i).length = i := by rw [List.length_take]; omega
   rw [hlen, JhR] at hb
   have hs := Jml hx.1 hx.2 (i := i) (by omega)
   have hlt : L.getD i 0 * 2 ^ (8 * i) < 2 ^ 64 := by
    have hp : (2 : Int) ^ (8 * i) <= 2 ^ 56 := by
     have h : (2 ^ (8 * i) : Nat) <= 2 ^ 56 := Nat.pow_le_pow_right (by omega) (by omega)
     have e2 : ((2 : Int)) ^ (8 * i) = ((2 ^ (8 * i) : Nat) : Int) := by rw [Int.natCast_pow]; rfl
     have e3 : ((2 : Int)) ^ 56 = ((2 ^ 56 : Nat) : Int) := by rw [Int.natCast_pow]; rfl
     rw [e2, e3]; exact Int.ofNat_le.2 h
    have hp0 : (0 : Int) <= 2 ^ (8 * i) := by omega
    have h56 : (2 : Int) ^ 56 = 72057594037927936 := by decide
    have h64 : (2 : Int) ^ 64 = 18446744073709551616 := by decide
    rw [h56] at hp; rw [h64]
    have hm : L.getD i 0 * 2 ^ (8 * i) <= 255 * 2 ^ (8 * i) := Int.mul_le_mul_of_nonneg_right (by omega) hp0
    omega
   rw [hs, Jga (by omega) hb.1 hb.2 hx.1 hlt]
   have hn1 : QM (L.take i) + L.getD i 0 * 2 ^ (8 * i) = QM (L.take (i + 1)) := by
    rw [ht, Jdp, hlen, JhR]
   rw [hn1]
   exact Jmm L hL h8 f k0 a b c d R e dd (i + 1) n (by omega) (by omega)
def Jex : List PV -> List Ent -> (Res -> Option Res) -> Option Res
 | [.ptr 0 [], .sc (.int .i64 n)], [.box false 186 (.st 186 [.ro 5 z f b, .sc (.int .i64 e)])], k =>
  bif (!z || f) && (decide (0 <= n) && decide (n <= 8)) && byB b then k ⟨.sc (.int .i64 (Jw n.toNat ⟨b, e⟩)), [rdP z f (Jc n.toNat ⟨b, e⟩)], []⟩ else none
 | _, _, _ => none
def JjA : Sig := { own := [], run := Jex }
theorem Jo2 (z f : Bool) (b : List PV) (e n : Int) (hz : (!z || f) = true) (hn : 0 <= n) (hn8 : n <= 8) (hb : byB b = true) (k : Res -> Option Res) :
  Jut 20 z f b e n k = k ⟨.sc (.int .i64 (Jw n.toNat ⟨b, e⟩)), [rdP z f (Jc n.toNat ⟨b, e⟩)], []⟩ := by
 unfold Jut
 rw [Jb (by rw [hz]; simpa using hn), WS, Yi]
 have ho : byB (J0 n.toNat ⟨b, e⟩) = true := Yj hb _
 have hoi := Qo.1 ho
 have hl : (Ji (J0 n.toNat ⟨b, e⟩)).length <= 8 := by rw [Qx]; exact Nat.le_trans (Wt _ _) (by omega)
 have hL := Jmm (Ji (J0 n.toNat ⟨b, e⟩)) hoi.2 hl 20 (fun x0_0 x1_0 x2_0 x3_0 x4_0 => k (Res.mk (.sc (.int .i64 (IntKind.i64.wrap x0_0))) [.box false 186 (.st 186 [.ro 5 x1_0 x2_0 x3_0, .sc (.int .i64 x4_0)])] [])) (!okS n.toNat ⟨b, e⟩ || z) (!okS n.toNat ⟨b, e⟩ || z) z f (Jc n.toNat ⟨b, e⟩).b (Jc n.toNat ⟨b, e⟩).e (Ji (J0 n.toNat ⟨b, e⟩)).length 0 20 (by omega) (by omega)
 rw [← Qc hoi.1, Qx] at hL
 simp only [List.take_zero, QM] at hL
 exact hL
theorem JhS : Jf tau Try.prog 155 JjA := Jf.mk' fun xs es k res hl hr => by
 change Jex xs es k = some res at hr
 unfold Jex at hr
 split at hr
 · rename_i n z f b e
   obtain ⟨hc, hr⟩ := JG hr
   simp only [Bool.and_eq_true, decide_eq_true_eq] at hc
   exact Qj Jq Jjy Jr JrR JrS (Jjz (VB 20)) [.ro] 1 0 (JxO 20) hl rfl ((JDO 20 z f b e n k).trans ((Jo2 z f b e n hc.1.1 hc.1.2.1 hc.1.2.2 hc.2 k).trans hr))
 · cases hr
def JxP : Fns := JC 155 JjA (F0)
theorem Jo3 : Ju tau Try.prog JxP := (JB).add JhS Jmk
def JjB : An := (.seq .leaf (.seq .leaf .leaf))
def JxQ (f : Nat) (y0 y1 : Bool) (r_b : List PV) (r_e : Int) (k : Res -> Option Res) : Option Res := bif (!y0 || y1) && true && byB r_b then k (Res.mk (.sc (.int .i64 (Jw 8 (RS.mk r_b r_e)))) [.box false 186 (PV.st 186 [.ro 5 y0 y1 (Jc 8 (RS.mk r_b r_e)).b, .sc (.int .i64 (Jc 8 (RS.mk r_b r_e)).e)])] []) else none
theorem JDP (f : Nat) (y0 y1 : Bool) (r_b : List PV) (r_e : Int) (k : Res -> Option Res) : JN tau JxP Try.f132 (Try.f132.body.get!) JjB [.ro] 0 [.ptr 0 []] [.box false 186 (.st 186 [.ro 5 y0 y1 r_b, .sc (.int .i64 r_e)])] k = JxQ f y0 y1 r_b r_e k := by kernel_rfl
theorem JxR (f : Nat) : Je (Try.f132.body.get!) JjB = [] := by kernel_rfl
theorem JxS (f : Nat) : ∀ q ∈ Je (Try.f132.body.get!) JjB, q.Ok tau Try.prog 1 := by
 rw [JxR f]; intro q hq; cases hq
theorem JrT : Try.prog.funcs[132]? = some Try.f132 := by kernel_rfl
theorem JrU : Try.f132.body = some (Try.f132.body.get!) := by kernel_rfl
theorem JrV : Enters Try.prog 132 := enters_of JrT (by kernel_rfl) JrU
def JhT : List PV -> List Ent -> (Res -> Option Res) -> Option Res
 | [.ptr 0 []], [.box false 186 (.st 186 [.ro 5 y0 y1 r_b, .sc (.int .i64 r_e)])], k => JxQ 0 y0 y1 r_b r_e k
 | _, _, _ => none
def Juu : Sig := { own := [], run := JhT }
theorem JrW : Jf tau Try.prog 132 Juu := JP Jq Jo3 Jr JrT JrU JjB [.ro] 1 [] JhT (JxS 0) fun xs es k res hr => by
 unfold JhT at hr
 split at hr
 · exact ⟨rfl, 0, (JDP 0 _ _ _ _  _).trans hr⟩
 · cases hr
def JxT : Fns := JC 155 JjA (F0)
theorem Jo4 : Ju tau Try.prog JxT := (JB).add JhS Jmk
def JjC : An := (.seq .leaf (.seq .leaf .leaf))
def JxU (f : Nat) (y0 y1 : Bool) (r_b : List PV) (r_e : Int) (k : Res -> Option Res) : Option Res := bif (!y0 || y1) && true && byB r_b then k (Res.mk (.sc (.int .i64 (Jw 1 (RS.mk r_b r_e)))) [.box false 186 (PV.st 186 [.ro 5 y0 y1 (Jc 1 (RS.mk r_b r_e)).b, .sc (.int .i64 (Jc 1 (RS.mk r_b r_e)).e)])] []) else none
theorem JDQ (f : Nat) (y0 y1 : Bool) (r_b : List PV) (r_e : Int) (k : Res -> Option Res) : JN tau JxT Try.f133 (Try.f133.body.get!) JjC [.ro] 0 [.ptr 0 []] [.box false 186 (.st 186 [.ro 5 y0 y1 r_b, .sc (.int .i64 r_e)])] k = JxU f y0 y1 r_b r_e k := by kernel_rfl
theorem JxV (f : Nat) : Je (Try.f133.body.get!) JjC = [] := by kernel_rfl
theorem JxW (f : Nat) : ∀ q ∈ Je (Try.f133.body.get!) JjC, q.Ok tau Try.prog 1 := by
 rw [JxV f]; intro q hq; cases hq
theorem JrX : Try.prog.funcs[133]? = some Try.f133 := by kernel_rfl
theorem JrY : Try.f133.body = some (Try.f133.body.get!) := by kernel_rfl
theorem JrZ : Enters Try.prog 133 := enters_of JrX (by kernel_rfl) JrY
def JhU : List PV -> List Ent -> (Res -> Option Res) -> Option Res
 | [.ptr 0 []], [.box false 186 (.st 186 [.ro 5 y0 y1 r_b, .sc (.int .i64 r_e)])], k => JxU 0 y0 y1 r_b r_e k
 | _, _, _ => none
def Juv : Sig := { own := [], run := JhU }
theorem Jr0 : Jf tau Try.prog 133 Juv := JP Jq Jo4 Jr JrX JrY JjC [.ro] 1 [] JhU (JxW 0) fun xs es k res hr => by
 unfold JhU at hr
 split at hr
 · exact ⟨rfl, 0, (JDQ 0 _ _ _ _  _).trans hr⟩
 · cases hr
def JxX : Fns := JC 156 Jmg (JC 155 JjA (F0))
theorem Jo5 : Ju tau Try.prog JxX := ((JB).add JhS Jmk).add Jmh JrQ
def JjD : An := (.seq .leaf (.seq .leaf (.seq .leaf .leaf)))
def Jo6 (f : Nat) (y0 y1 : Bool) (r_b : List PV) (r_e : Int) (k : Res -> Option Res) : Option Res := bif (!y0 || y1) && true && byB r_b then bif (!y0 || y1) && decide (0 <= Jw 2 (RS.mk r_b r_e)) then bif Jh IntKind.u8 (Qz (Jw 2 (RS.mk r_b r_e)).toNat (Jc 2 (RS.mk r_b r_e))) && true then k (Res.mk (.sc (.string (ByteArray.mk (Array.mk (Jp (!okS (Jw 2 (RS.mk r_b r_e)).toNat (RS.mk (Jc 2 (RS.mk r_b r_e)).b (Jc 2 (RS.mk r_b r_e)).e) || y0, Qz (Jw 2 (RS.mk r_b r_e)).toNat (Jc 2 (RS.mk r_b r_e))).snd))))) [.box false 186 (PV.st 186 [.ro 5 y0 y1 (Jc (Jw 2 (RS.mk r_b r_e)).toNat (Jc 2 (RS.mk r_b r_e))).b, .sc (.int .i64 (Jc (Jw 2 (RS.mk r_b r_e)).toNat (Jc 2 (RS.mk r_b r_e))).e)])] []) else none else none else none
theorem JDR (f : Nat) (y0 y1 : Bool) (r_b : List PV) (r_e : Int) (k : Res -> Option Res) : JN tau JxX Try.f135 (Try.f135.body.get!) JjD [.ro] 0 [.ptr 0 []] [.box false 186 (.st 186 [.ro 5 y0 y1 r_b, .sc (.int .i64 r_e)])] k = Jo6 f y0 y1 r_b r_e k := by kernel_rfl
theorem JxY (f : Nat) : Je (Try.f135.body.get!) JjD = [] := by kernel_rfl
theorem JxZ (f : Nat) : ∀ q ∈ Je (Try.f135.body.get!) JjD, q.Ok tau Try.prog 1 := by
 rw [JxY f]; intro q hq; cases hq
theorem Jr1 : Try.prog.funcs[135]? = some Try.f135 := by kernel_rfl
theorem Jr2 : Try.f135.body = some (Try.f135.body.get!) := by kernel_rfl
theorem Jr3 : Enters Try.prog 135 := enters_of Jr1 (by kernel_rfl) Jr2
def JhV : List PV -> List Ent -> (Res -> Option Res) -> Option Res
 | [.ptr 0 []], [.box false 186 (.st 186 [.ro 5 y0 y1 r_b, .sc (.int .i64 r_e)])], k => Jo6 0 y0 y1 r_b r_e k
 | _, _, _ => none
def JDS : Sig := { own := [], run := JhV }
theorem Jx0 : Jf tau Try.prog 135 JDS := JP Jq Jo5 Jr Jr1 Jr2 JjD [.ro] 1 [] JhV (JxZ 0) fun xs es k res hr => by
 unfold JhV at hr
 split at hr
 · exact ⟨rfl, 0, (JDR 0 _ _ _ _  _).trans hr⟩
 · cases hr
-- FN (*code.Reader).Text
def Jey : List PV -> List Ent -> (Res -> Option Res) -> Option Res
 | [.ptr 0 []], [.box false 186 (.st 186 [.ro 5 z f b, .sc (.int .i64 e)])], k =>
  bif (!z || f) && byB b then k ⟨.sc (.string (JS ⟨b, e⟩)), [rdP z f (J9 ⟨b, e⟩)], []⟩ else none
 | _, _, _ => none
def Jmn : Sig := { own := [], run := Jey }
theorem Jmo : Jf tau Try.prog 135 Jmn := Jx0.of fun xs es k res hr => by
 change Jey xs es k = some res at hr
 unfold Jey at hr
 split at hr
 · rename_i z f b e
   obtain ⟨hc, hr⟩ := JG hr
   simp only [Bool.and_eq_true] at hc
   show Jo6 0 z f b e k = some res
   have hn := (Xl (s := ⟨b, e⟩) hc.2 (n := 2) (by omega)).1
   have ho := (Qo.1 (Yj (s := J1 2 ⟨b, e⟩) (X1 (s := ⟨b, e⟩) hc.2 2) (QK 2 ⟨b, e⟩).toNat)).1
   unfold Jo6
   simp only [WS, We, Yi]
   rw [Jb (by rw [hc.1, hc.2]; rfl), Jb (by rw [hc.1]; simpa using hn), Jb (by rw [ho]; rfl)]
   rw [Jbn, Gj] at hr
   exact hr
 · cases hr



def Jx1 : Fns := F0
theorem Jo7 : Ju tau Try.prog Jx1 := JB
def JjE : An := (.seq .leaf (.seq (.seq .leaf (.cond .leaf .leaf)) (.seq (.seq .leaf (.cond (.seq .leaf .leaf) .leaf)) (.seq .leaf (.seq .leaf .leaf)))))
def Jo8 (f : Nat) (y0 y1 : Bool) (r_B : List PV) (r_P y2 n : Int) (k : Res -> Option Res) : Option Res := bif y2 == 0 then bif decide (IntKind.i64.wrap (zi r_B.length - r_P) < n) then k (Res.mk (.ro 5 true true []) [.box false 138 (PV.st 138 [.ro 5 y0 y1 r_B, .sc (.int .i64 r_P), .sc (.int .i64 8)])] []) else bif y2 != 0 then k (Res.mk (.ro 5 true true []) [.box false 138 (PV.st 138 [.ro 5 y0 y1 r_B, .sc (.int .i64 r_P), .sc (.int .i64 y2)])] []) else bif decide (0 <= IntKind.i64.wrap (IntKind.i64.wrap (r_P + n) - n)) && decide (0 <= IntKind.i64.wrap (r_P + n)) && decide ((IntKind.i64.wrap (IntKind.i64.wrap (r_P + n) - n)).toNat <= (IntKind.i64.wrap (r_P + n)).toNat) && decide ((IntKind.i64.wrap (r_P + n)).toNat <= r_B.length) && true then k (Res.mk (.ro 5 y0 (y0 || y1 && false) (List.drop (IntKind.i64.wrap (IntKind.i64.wrap (r_P + n) - n)).toNat (List.take (IntKind.i64.wrap (r_P + n)).toNat r_B))) [.box false 138 (PV.st 138 [.ro 5 y0 y1 r_B, .sc (.int .i64 (IntKind.i64.wrap (r_P + n))), .sc (.int .i64 y2)])] []) else none else bif y2 != 0 then k (Res.mk (.ro 5 true true []) [.box false 138 (PV.st 138 [.ro 5 y0 y1 r_B, .sc (.int .i64 r_P), .sc (.int .i64 y2)])] []) else bif decide (0 <= IntKind.i64.wrap (IntKind.i64.wrap (r_P + n) - n)) && decide (0 <= IntKind.i64.wrap (r_P + n)) && decide ((IntKind.i64.wrap (IntKind.i64.wrap (r_P + n) - n)).toNat <= (IntKind.i64.wrap (r_P + n)).toNat) && decide ((IntKind.i64.wrap (r_P + n)).toNat <= r_B.length) && true then k (Res.mk (.ro 5 y0 (y0 || y1 && false) (List.drop (IntKind.i64.wrap (IntKind.i64.wrap (r_P + n) - n)).toNat (List.take (IntKind.i64.wrap (r_P + n)).toNat r_B))) [.box false 138 (PV.st 138 [.ro 5 y0 y1 r_B, .sc (.int .i64 (IntKind.i64.wrap (r_P + n))), .sc (.int .i64 y2)])] []) else none
theorem JDT (f : Nat) (y0 y1 : Bool) (r_B : List PV) (r_P y2 n : Int) (k : Res -> Option Res) : JN tau Jx1 Try.f142 (Try.f142.body.get!) JjE [.ro] 0 [.ptr 0 [], .sc (.int .i64 n)] [.box false 138 (.st 138 [.ro 5 y0 y1 r_B, .sc (.int .i64 r_P), .sc (.int .i64 y2)])] k = Jo8 f y0 y1 r_B r_P y2 n k := by kernel_rfl
theorem Jx2 (f : Nat) : Je (Try.f142.body.get!) JjE = [] := by kernel_rfl
theorem Jx3 (f : Nat) : ∀ q ∈ Je (Try.f142.body.get!) JjE, q.Ok tau Try.prog 1 := by
 rw [Jx2 f]; intro q hq; cases hq
theorem Jr4 : Try.prog.funcs[142]? = some Try.f142 := by kernel_rfl
theorem Jr5 : Try.f142.body = some (Try.f142.body.get!) := by kernel_rfl
theorem Jmp : Enters Try.prog 142 := enters_of Jr4 (by kernel_rfl) Jr5
def JhW : List PV -> List Ent -> (Res -> Option Res) -> Option Res
 | [.ptr 0 [], .sc (.int .i64 n)], [.box false 138 (.st 138 [.ro 5 y0 y1 r_B, .sc (.int .i64 r_P), .sc (.int .i64 y2)])], k => Jo8 0 y0 y1 r_B r_P y2 n k
 | _, _, _ => none
def JDU : Sig := { own := [], run := JhW }
theorem Jx4 : Jf tau Try.prog 142 JDU := JP Jq Jo7 Jr Jr4 Jr5 JjE [.ro] 1 [] JhW (Jx3 0) fun xs es k res hr => by
 unfold JhW at hr
 split at hr
 · exact ⟨rfl, 0, (JDT 0 _ _ _ _ _ _  _).trans hr⟩
 · cases hr
-- FN (*ref1.Reader).take
abbrev rfP (z f : Bool) (t : RT) : Ent := .box false 138 (.st 138 [.ro 5 z f t.B, .sc (.int .i64 t.P), .sc (.int .i64 t.e)])
def Jez : List PV -> List Ent -> (Res -> Option Res) -> Option Res
 | [.ptr 0 [], .sc (.int .i64 n)], [.box false 138 (.st 138 [.ro 5 z f B, .sc (.int .i64 P), .sc (.int .i64 e)])], k =>
  bif okT ⟨B, P, e⟩ && (decide (0 <= n) && decide (n <= 1000000000)) then k ⟨.ro 5 (!okS n.toNat (RT.view ⟨B, P, e⟩) || z) (!okS n.toNat (RT.view ⟨B, P, e⟩) || z) (Qz n.toNat (RT.view ⟨B, P, e⟩)), [rfP z f (Ja n.toNat ⟨B, P, e⟩)], []⟩ else none
 | _, _, _ => none
def JjF : Sig := { own := [], run := Jez }
theorem Jo9 (z f : Bool) (B : List PV) (P e n : Int) (hk : okT ⟨B, P, e⟩ = true) (hn : 0 <= n) (hn2 : n <= 1000000000) (k : Res -> Option Res) :
   Jo8 0 z f B P e n k = k ⟨.ro 5 (!okS n.toNat (RT.view ⟨B, P, e⟩) || z) (!okS n.toNat (RT.view ⟨B, P, e⟩) || z) (Qz n.toNat (RT.view ⟨B, P, e⟩)), [rfP z f (Ja n.toNat ⟨B, P, e⟩)], []⟩ := by
 rw [JhQ, Yi, WF]
 simp only [okT, Bool.and_eq_true, decide_eq_true_eq, Nat.ble_eq] at hk
 obtain ⟨k1, k2, k3, k4⟩ := hk
 have hz2 : (z || f && false) = z := by cases z <;> cases f <;> rfl
 obtain ⟨p, rfl⟩ := Int.eq_ofNat_of_zero_le k1
 obtain ⟨m, rfl⟩ := Int.eq_ofNat_of_zero_le hn
 have w1 : IntKind.i64.wrap (zi B.length - (p : Int)) = ((B.length - p : Nat) : Int) := by simp only [zi]; rw [wrap_i64 (by omega) (by omega)]; omega
 have w2 : IntKind.i64.wrap ((p : Int) + (m : Int)) = ((p + m : Nat) : Int) := by rw [wrap_i64 (by omega) (by omega)]; omega
 have w3 : IntKind.i64.wrap (((p + m : Nat) : Int) - (m : Int)) = (p : Int) := by rw [wrap_i64 (by omega) (by omega)]; omega
 have hdl : (B.drop p).length = B.length - p := List.length_drop
 unfold Jo8
 simp only [w1, w2, w3, Int.toNat_natCast, hz2]
 by_cases c2 : e = 0
 · subst c2
   simp only [beq_self_eq_true, cond_true]
   have h00 : ((0 : Int) != 0) = false := by decide
   by_cases c1 : ((B.length - p : Nat) : Int) < (m : Int)
   · rw [Jb (by simpa using c1)]
     have hb : Nat.ble m (B.length - p) = false := by
      cases h : Nat.ble m (B.length - p) with
      | false => rfl
      | true => rw [Nat.ble_eq] at h; omega
     simp [WE, J0, QG, RT.view, hb]
   · have hb : Nat.ble m (B.length - p) = true := by rw [Nat.ble_eq]; omega
     simp only [h00, cond_false]
     rw [Jv (by simpa using c1), Jb (by simp; omega)]
     have hd : List.drop p (List.take (p + m) B) = List.take m (List.drop p B) := by rw [List.drop_take]; congr 1; omega
     rw [hd]
     simp [WE, J0, QG, RT.view, hb]
 · have hb : (e == 0) = false := by simpa using c2
   have hb2 : (e != 0) = true := by simpa using c2
   simp only [hb, hb2, cond_true, cond_false]
   simp [WE, J0, QG, RT.view, hb]
theorem JhX : Jf tau Try.prog 142 JjF := Jx4.of fun xs es k res hr => by
 change Jez xs es k = some res at hr
 unfold Jez at hr
 split at hr
 · obtain ⟨hc, hr⟩ := JG hr
   simp only [Bool.and_eq_true, decide_eq_true_eq] at hc
   exact (Jo9 _ _ _ _ _ _ hc.1 hc.2.1 hc.2.2 _).trans hr
 · cases hr
def N84 : Nat := 25
def F84 : Fns := JC 142 JjF (F0)
theorem Jmq : Ju tau Try.prog F84 := (JB).add JhX Jmp
def Jdq : Code := Qu (Try.f84.body.get!) [1, 1, 1, 0, 1, 0, 0]
def Yl : Nm := [(3, .any), (4, .any), (5, .any)]
def Zh : Nm := [(3, .any)]
def Jgb : An := (.seq (.seq .leaf (.cond .leaf .leaf)) (.seq (.block none .leaf) .leaf))
def Jpa (r0 : QJ) : An := (.seq .leaf (.seq .leaf (.seq .leaf (.seq (.seq .leaf (.block none (.sum Yl N84 r0))) (.seq .leaf .leaf)))))
def Gm (f : Nat) (rc : Int -> Bool -> Bool -> List PV -> Int -> Bool -> Bool -> List PV -> Int -> Int -> Option Res) (k0 : Int -> Bool -> Bool -> List PV -> Int -> Int -> Option Res) (v0 : Int) (v1 v2 : Bool) (v3 : List PV) (v4 : Int) (v5 v6 : Bool) (v7 : List PV) (v8 v9 : Int) : Option Res := bif decide (v4 >= 0) then bif decide (0 <= v4) && decide (v4 < zi v3.length) && PV.isInt IntKind.u8 (v3.getD v4.toNat PV.top) && true then rc (JH BinOp.or IntKind.u64 (WN IntKind.u64 v0 8) (IntKind.u64.wrap (v3.getD v4.toNat PV.top).int)) v1 v2 v3 (IntKind.i64.wrap (v4 - 1)) v5 v6 v7 v8 v9 else none else k0 v0 v5 v6 v7 v8 v9
def VC (f : Nat) (k0 : Int -> Bool -> Bool -> List PV -> Int -> Int -> Option Res) : Nat -> Int -> Bool -> Bool -> List PV -> Int -> Bool -> Bool -> List PV -> Int -> Int -> Option Res
 | 0, _, _, _, _, _, _, _, _, _, _ => none
 | n + 1, v0, v1, v2, v3, v4, v5, v6, v7, v8, v9 => Gm f (VC f k0 n) k0 v0 v1 v2 v3 v4 v5 v6 v7 v8 v9
theorem Jpb (f : Nat) (k : Kont) (n : Nat) (v0 : Int) (v1 v2 : Bool) (v3 : List PV) (v4 : Int) (v5 v6 : Bool) (v7 : List PV) (v8 v9 : Int) : Jn tau 1 Yl (fun s k => ev tau F84 1 0 Jdq (Jgb ) s k) (n + 1) (Jd Yl N84 [.sc (.int .u64 v0), .ro 5 v1 v2 v3, .sc (.int .i64 v4)] [(0, .box false 138 (PV.st 138 [.ro 5 v5 v6 v7, .sc (.int .i64 v8), .sc (.int .i64 v9)]))]) (Jt tau 1 Zh k) = Gm f (fun v0 v1 v2 v3 v4 v5 v6 v7 v8 v9 => Jn tau 1 Yl (fun s k => ev tau F84 1 0 Jdq (Jgb ) s k) n (Jd Yl N84 [.sc (.int .u64 v0), .ro 5 v1 v2 v3, .sc (.int .i64 v4)] [(0, .box false 138 (PV.st 138 [.ro 5 v5 v6 v7, .sc (.int .i64 v8), .sc (.int .i64 v9)]))]) (Jt tau 1 Zh k)) (fun x0 x1 x2 x3 x4 x5 => k (Ex.exit 0) (Jd Zh N84 [.sc (.int .u64 x0)] [(0, .box false 138 (PV.st 138 [.ro 5 x1 x2 x3, .sc (.int .i64 x4), .sc (.int .i64 x5)]))])) v0 v1 v2 v3 v4 v5 v6 v7 v8 v9 := by kernel_rfl
theorem JjG (f : Nat) (k : Kont) : ∀ (n : Nat) (v0 : Int) (v1 v2 : Bool) (v3 : List PV) (v4 : Int) (v5 v6 : Bool) (v7 : List PV) (v8 v9 : Int), Jn tau 1 Yl (fun s k => ev tau F84 1 0 Jdq (Jgb ) s k) n (Jd Yl N84 [.sc (.int .u64 v0), .ro 5 v1 v2 v3, .sc (.int .i64 v4)] [(0, .box false 138 (PV.st 138 [.ro 5 v5 v6 v7, .sc (.int .i64 v8), .sc (.int .i64 v9)]))]) (Jt tau 1 Zh k) = VC f (fun x0 x1 x2 x3 x4 x5 => k (Ex.exit 0) (Jd Zh N84 [.sc (.int .u64 x0)] [(0, .box false 138 (PV.st 138 [.ro 5 x1 x2 x3, .sc (.int .i64 x4), .sc (.int .i64 x5)]))])) n v0 v1 v2 v3 v4 v5 v6 v7 v8 v9 | 0, _, _, _, _, _, _, _, _, _, _ => rfl | n + 1, v0, v1, v2, v3, v4, v5, v6, v7, v8, v9 => (Jpb f k n v0 v1 v2 v3 v4 v5 v6 v7 v8 v9).trans (congrArg (fun r => Gm f r (fun x0 x1 x2 x3 x4 x5 => k (Ex.exit 0) (Jd Zh N84 [.sc (.int .u64 x0)] [(0, .box false 138 (PV.st 138 [.ro 5 x1 x2 x3, .sc (.int .i64 x4), .sc (.int .i64 x5)]))])) v0 v1 v2 v3 v4 v5 v6 v7 v8 v9) (by funext v0 v1 v2 v3 v4 v5 v6 v7 v8 v9; exact JjG f k n v0 v1 v2 v3 v4 v5 v6 v7 v8 v9))
def Jb2 (f : Nat) : List PV -> List (Nat × Ent) -> Kont -> Option Res
 | [.sc (.int .u64 v0), .ro 5 v1 v2 v3,
 PV.sc
  (Value.int IntKind.i64
   v4)], [(0,
  Ent.box false 138
   (PV.st 138
    [.ro 5 v5 v6 v7, .sc (.int .i64 v8),
     PV.sc
      (Value.int IntKind.i64
       v9)]))], k => VC f (fun x0 x1 x2 x3 x4 x5 => k (Ex.exit
 0) (Jd Zh N84 [PV.sc
  (Value.int .u64 x0)] [(0, .box false 138 (PV.st 138 [.ro 5 x1 x2 x3, .sc (.int .i64 x4), .sc (.int .i64 x5)]))])) f v0 v1 v2 v3 v4 v5 v6 v7 v8 v9
 | _, _, _ => none
theorem Juw (f : Nat) : Je Jdq Jgb = [] := by kernel_rfl
theorem Jx5 (f : Nat) : (Item.l Jdq Yl N84 (Jb2 f)).Ok tau Try.prog 1 := JI Jq Jmq Jr (x := Jgb) (nm2 := Zh) (Js _ _ (by rw [Juw f]; intro q hq; cases hq)) fun vs hp k res hr => by
 unfold Jb2 at hr
 split at hr
 · exact ⟨f, 0, (JjG f _ f _ _ _ _ _ _ _ _ _ _ ).trans hr⟩
 · cases hr
def g84 (f : Nat) (y0 y1 : Bool) (r_B : List PV) (r_P y2 : Int) (k : Res -> Option Res) : Option Res := bif okT (RT.mk r_B r_P y2) && true then VC f (fun x0_0 x1_0 x2_0 x3_0 x4_0 x5_0 => k (Res.mk (.sc (.int .i64 (IntKind.i64.wrap x0_0))) [.box false 138 (PV.st 138 [.ro 5 x1_0 x2_0 x3_0, .sc (.int .i64 x4_0), .sc (.int .i64 x5_0)])] [])) f (0) (!okS 8 (RS.mk (List.drop (RT.mk r_B r_P y2).P.toNat (RT.mk r_B r_P y2).B) (RT.mk r_B r_P y2).e) || y0) (!okS 8 (RS.mk (List.drop (RT.mk r_B r_P y2).P.toNat (RT.mk r_B r_P y2).B) (RT.mk r_B r_P y2).e) || y0) (Qz 8 (RS.mk (List.drop (RT.mk r_B r_P y2).P.toNat (RT.mk r_B r_P y2).B) (RT.mk r_B r_P y2).e)) (IntKind.i64.wrap (zi (Qz 8 (RS.mk (List.drop (RT.mk r_B r_P y2).P.toNat (RT.mk r_B r_P y2).B) (RT.mk r_B r_P y2).e)).length - 1)) y0 y1 ((Ja 8 (RT.mk r_B r_P y2)).B) ((Ja 8 (RT.mk r_B r_P y2)).P) ((Ja 8 (RT.mk r_B r_P y2)).e) else none
theorem e84 (f : Nat) (y0 y1 : Bool) (r_B : List PV) (r_P y2 : Int) (k : Res -> Option Res) : JN tau F84 Try.f84 (Try.f84.body.get!) (Jpa (Jb2 f)) [.ro] 0 [.ptr 0 []] [.box false 138 (.st 138 [.ro 5 y0 y1 r_B, .sc (.int .i64 r_P), .sc (.int .i64 y2)])] k = g84 f y0 y1 r_B r_P y2 k := by kernel_rfl
theorem JDV (f : Nat) : Je (Try.f84.body.get!) (Jpa (Jb2 f)) = [.l Jdq Yl N84 (Jb2 f)] := by kernel_rfl
theorem JDW (f : Nat) : ∀ q ∈ Je (Try.f84.body.get!) (Jpa (Jb2 f)), q.Ok tau Try.prog 1 := by
 rw [JDV f]; simp only [List.forall_mem_cons, List.not_mem_nil, false_implies, implies_true, and_true]; exact Jx5 f
theorem Jx6 : Try.prog.funcs[84]? = some Try.f84 := by kernel_rfl
theorem Jx7 : Try.f84.body = some (Try.f84.body.get!) := by kernel_rfl
theorem Jux : Enters Try.prog 84 := enters_of Jx6 (by kernel_rfl) Jx7
def F83 : Fns := JC 142 JjF (F0)
theorem Juy : Ju tau Try.prog F83 := (JB).add JhX Jmp
def Jpc : An := (.seq .leaf (.seq .leaf (.seq (.seq .leaf (.cond (.seq .leaf .leaf) .leaf)) (.seq .leaf .leaf))))
def g83 (f : Nat) (y0 y1 : Bool) (r_B : List PV) (r_P y2 : Int) (k : Res -> Option Res) : Option Res := bif okT (RT.mk r_B r_P y2) && true then bif zi (Qz 1 (RS.mk (List.drop (RT.mk r_B r_P y2).P.toNat (RT.mk r_B r_P y2).B) (RT.mk r_B r_P y2).e)).length == 0 then k (Res.mk (.sc (.int .i64 0)) [.box false 138 (PV.st 138 [.ro 5 y0 y1 (Ja 1 (RT.mk r_B r_P y2)).B, .sc (.int .i64 (Ja 1 (RT.mk r_B r_P y2)).P), .sc (.int .i64 (Ja 1 (RT.mk r_B r_P y2)).e)])] []) else bif decide (0 < zi (Qz 1 (RS.mk (List.drop (RT.mk r_B r_P y2).P.toNat (RT.mk r_B r_P y2).B) (RT.mk r_B r_P y2).e)).length) && PV.isInt IntKind.u8 ((Qz 1 (RS.mk (List.drop (RT.mk r_B r_P y2).P.toNat (RT.mk r_B r_P y2).B) (RT.mk r_B r_P y2).e)).getD 0 PV.top) && true then k (Res.mk (.sc (.int .i64 (IntKind.i64.wrap ((Qz 1 (RS.mk (List.drop (RT.mk r_B r_P y2).P.toNat (RT.mk r_B r_P y2).B) (RT.mk r_B r_P y2).e)).getD 0 PV.top).int))) [.box false 138 (PV.st 138 [.ro 5 y0 y1 (Ja 1 (RT.mk r_B r_P y2)).B, .sc (.int .i64 (Ja 1 (RT.mk r_B r_P y2)).P), .sc (.int .i64 (Ja 1 (RT.mk r_B r_P y2)).e)])] []) else none else none
theorem e83 (f : Nat) (y0 y1 : Bool) (r_B : List PV) (r_P y2 : Int) (k : Res -> Option Res) : JN tau F83 Try.f83 (Try.f83.body.get!) Jpc [.ro] 0 [.ptr 0 []] [.box false 138 (.st 138 [.ro 5 y0 y1 r_B, .sc (.int .i64 r_P), .sc (.int .i64 y2)])] k = g83 f y0 y1 r_B r_P y2 k := by kernel_rfl
theorem JDX (f : Nat) : Je (Try.f83.body.get!) Jpc = [] := by kernel_rfl
theorem JDY (f : Nat) : ∀ q ∈ Je (Try.f83.body.get!) Jpc, q.Ok tau Try.prog 1 := by
 rw [JDX f]; intro q hq; cases hq
theorem Jx8 : Try.prog.funcs[83]? = some Try.f83 := by kernel_rfl
theorem Jx9 : Try.f83.body = some (Try.f83.body.get!) := by kernel_rfl
theorem Juz : Enters Try.prog 83 := enters_of Jx8 (by kernel_rfl) Jx9
def Jmr : List PV -> List Ent -> (Res -> Option Res) -> Option Res
 | [.ptr 0 []], [.box false 138 (.st 138 [.ro 5 y0 y1 r_B, .sc (.int .i64 r_P), .sc (.int .i64 y2)])], k => g83 0 y0 y1 r_B r_P y2 k
 | _, _, _ => none
def s83 : Sig := { own := [], run := Jmr }
theorem JDZ : Jf tau Try.prog 83 s83 := JP Jq Juy Jr Jx8 Jx9 Jpc [.ro] 1 [] Jmr (JDY 0) fun xs es k res hr => by
 unfold Jmr at hr
 split at hr
 · exact ⟨rfl, 0, (e83 0 _ _ _ _ _  _).trans hr⟩
 · cases hr
def F86 : Fns := JC 142 JjF (F0)
theorem JuA : Ju tau Try.prog F86 := (JB).add JhX Jmp
def Jpd : An := (.seq .leaf (.seq .leaf (.seq (.seq .leaf (.cond (.seq .leaf .leaf) .leaf)) (.seq .leaf .leaf))))
def g86 (f : Nat) (y0 y1 : Bool) (r_B : List PV) (r_P y2 : Int) (k : Res -> Option Res) : Option Res := bif okT (RT.mk r_B r_P y2) && true then bif zi (Qz 2 (RS.mk (List.drop (RT.mk r_B r_P y2).P.toNat (RT.mk r_B r_P y2).B) (RT.mk r_B r_P y2).e)).length == 0 then k (Res.mk (.sc (.string (ByteArray.mk (Array.mk [])))) [.box false 138 (PV.st 138 [.ro 5 y0 y1 (Ja 2 (RT.mk r_B r_P y2)).B, .sc (.int .i64 (Ja 2 (RT.mk r_B r_P y2)).P), .sc (.int .i64 (Ja 2 (RT.mk r_B r_P y2)).e)])] []) else bif decide (0 < zi (Qz 2 (RS.mk (List.drop (RT.mk r_B r_P y2).P.toNat (RT.mk r_B r_P y2).B) (RT.mk r_B r_P y2).e)).length) && PV.isInt IntKind.u8 ((Qz 2 (RS.mk (List.drop (RT.mk r_B r_P y2).P.toNat (RT.mk r_B r_P y2).B) (RT.mk r_B r_P y2).e)).getD 0 PV.top) && true then bif decide (1 < zi (Qz 2 (RS.mk (List.drop (RT.mk r_B r_P y2).P.toNat (RT.mk r_B r_P y2).B) (RT.mk r_B r_P y2).e)).length) && PV.isInt IntKind.u8 ((Qz 2 (RS.mk (List.drop (RT.mk r_B r_P y2).P.toNat (RT.mk r_B r_P y2).B) (RT.mk r_B r_P y2).e)).getD 1 PV.top) && true then bif okT (Ja 2 (RT.mk r_B r_P y2)) && (decide (0 <= IntKind.i64.wrap (IntKind.i64.wrap ((Qz 2 (RS.mk (List.drop (RT.mk r_B r_P y2).P.toNat (RT.mk r_B r_P y2).B) (RT.mk r_B r_P y2).e)).getD 0 PV.top).int + IntKind.i64.wrap (256 * IntKind.i64.wrap ((Qz 2 (RS.mk (List.drop (RT.mk r_B r_P y2).P.toNat (RT.mk r_B r_P y2).B) (RT.mk r_B r_P y2).e)).getD 1 PV.top).int))) && decide (IntKind.i64.wrap (IntKind.i64.wrap ((Qz 2 (RS.mk (List.drop (RT.mk r_B r_P y2).P.toNat (RT.mk r_B r_P y2).B) (RT.mk r_B r_P y2).e)).getD 0 PV.top).int + IntKind.i64.wrap (256 * IntKind.i64.wrap ((Qz 2 (RS.mk (List.drop (RT.mk r_B r_P y2).P.toNat (RT.mk r_B r_P y2).B) (RT.mk r_B r_P y2).e)).getD 1 PV.top).int)) <= 1000000000)) then bif Jh IntKind.u8 (Qz (IntKind.i64.wrap (IntKind.i64.wrap ((Qz 2 (RS.mk (List.drop (RT.mk r_B r_P y2).P.toNat (RT.mk r_B r_P y2).B) (RT.mk r_B r_P y2).e)).getD 0 PV.top).int + IntKind.i64.wrap (256 * IntKind.i64.wrap ((Qz 2 (RS.mk (List.drop (RT.mk r_B r_P y2).P.toNat (RT.mk r_B r_P y2).B) (RT.mk r_B r_P y2).e)).getD 1 PV.top).int))).toNat (RS.mk (List.drop (RT.mk (Ja 2 (RT.mk r_B r_P y2)).B (Ja 2 (RT.mk r_B r_P y2)).P (Ja 2 (RT.mk r_B r_P y2)).e).P.toNat (RT.mk (Ja 2 (RT.mk r_B r_P y2)).B (Ja 2 (RT.mk r_B r_P y2)).P (Ja 2 (RT.mk r_B r_P y2)).e).B) (RT.mk (Ja 2 (RT.mk r_B r_P y2)).B (Ja 2 (RT.mk r_B r_P y2)).P (Ja 2 (RT.mk r_B r_P y2)).e).e)) && true then k (Res.mk (.sc (.string (ByteArray.mk (Array.mk (Jp (!okS (IntKind.i64.wrap (IntKind.i64.wrap ((Qz 2 (RS.mk (List.drop (RT.mk r_B r_P y2).P.toNat (RT.mk r_B r_P y2).B) (RT.mk r_B r_P y2).e)).getD 0 PV.top).int + IntKind.i64.wrap (256 * IntKind.i64.wrap ((Qz 2 (RS.mk (List.drop (RT.mk r_B r_P y2).P.toNat (RT.mk r_B r_P y2).B) (RT.mk r_B r_P y2).e)).getD 1 PV.top).int))).toNat (RT.mk (Ja 2 (RT.mk r_B r_P y2)).B (Ja 2 (RT.mk r_B r_P y2)).P (Ja 2 (RT.mk r_B r_P y2)).e).view || y0, Qz (IntKind.i64.wrap (IntKind.i64.wrap ((Qz 2 (RS.mk (List.drop (RT.mk r_B r_P y2).P.toNat (RT.mk r_B r_P y2).B) (RT.mk r_B r_P y2).e)).getD 0 PV.top).int + IntKind.i64.wrap (256 * IntKind.i64.wrap ((Qz 2 (RS.mk (List.drop (RT.mk r_B r_P y2).P.toNat (RT.mk r_B r_P y2).B) (RT.mk r_B r_P y2).e)).getD 1 PV.top).int))).toNat (RS.mk (List.drop (RT.mk (Ja 2 (RT.mk r_B r_P y2)).B (Ja 2 (RT.mk r_B r_P y2)).P (Ja 2 (RT.mk r_B r_P y2)).e).P.toNat (RT.mk (Ja 2 (RT.mk r_B r_P y2)).B (Ja 2 (RT.mk r_B r_P y2)).P (Ja 2 (RT.mk r_B r_P y2)).e).B) (RT.mk (Ja 2 (RT.mk r_B r_P y2)).B (Ja 2 (RT.mk r_B r_P y2)).P (Ja 2 (RT.mk r_B r_P y2)).e).e)).snd))))) [.box false 138 (PV.st 138 [.ro 5 y0 y1 (Ja (IntKind.i64.wrap (IntKind.i64.wrap ((Qz 2 (RS.mk (List.drop (RT.mk r_B r_P y2).P.toNat (RT.mk r_B r_P y2).B) (RT.mk r_B r_P y2).e)).getD 0 PV.top).int + IntKind.i64.wrap (256 * IntKind.i64.wrap ((Qz 2 (RS.mk (List.drop (RT.mk r_B r_P y2).P.toNat (RT.mk r_B r_P y2).B) (RT.mk r_B r_P y2).e)).getD 1 PV.top).int))).toNat (Ja 2 (RT.mk r_B r_P y2))).B, .sc (.int .i64 (Ja (IntKind.i64.wrap (IntKind.i64.wrap ((Qz 2 (RS.mk (List.drop (RT.mk r_B r_P y2).P.toNat (RT.mk r_B r_P y2).B) (RT.mk r_B r_P y2).e)).getD 0 PV.top).int + IntKind.i64.wrap (256 * IntKind.i64.wrap ((Qz 2 (RS.mk (List.drop (RT.mk r_B r_P y2).P.toNat (RT.mk r_B r_P y2).B) (RT.mk r_B r_P y2).e)).getD 1 PV.top).int))).toNat (Ja 2 (RT.mk r_B r_P y2))).P), .sc (.int .i64 (Ja (IntKind.i64.wrap (IntKind.i64.wrap ((Qz 2 (RS.mk (List.drop (RT.mk r_B r_P y2).P.toNat (RT.mk r_B r_P y2).B) (RT.mk r_B r_P y2).e)).getD 0 PV.top).int + IntKind.i64.wrap (256 * IntKind.i64.wrap ((Qz 2 (RS.mk (List.drop (RT.mk r_B r_P y2).P.toNat (RT.mk r_B r_P y2).B) (RT.mk r_B r_P y2).e)).getD 1 PV.top).int))).toNat (Ja 2 (RT.mk r_B r_P y2))).e)])] []) else none else none else none else none else none
theorem e86 (f : Nat) (y0 y1 : Bool) (r_B : List PV) (r_P y2 : Int) (k : Res -> Option Res) : JN tau F86 Try.f86 (Try.f86.body.get!) Jpd [.ro] 0 [.ptr 0 []] [.box false 138 (.st 138 [.ro 5 y0 y1 r_B, .sc (.int .i64 r_P), .sc (.int .i64 y2)])] k = g86 f y0 y1 r_B r_P y2 k := by kernel_rfl
theorem JD0 (f : Nat) : Je (Try.f86.body.get!) Jpd = [] := by kernel_rfl
theorem JD1 (f : Nat) : ∀ q ∈ Je (Try.f86.body.get!) Jpd, q.Ok tau Try.prog 1 := by
 rw [JD0 f]; intro q hq; cases hq
theorem Jya : Try.prog.funcs[86]? = some Try.f86 := by kernel_rfl
theorem Jyb : Try.f86.body = some (Try.f86.body.get!) := by kernel_rfl
theorem Jyc : Enters Try.prog 86 := enters_of Jya (by kernel_rfl) Jyb
def Jms : List PV -> List Ent -> (Res -> Option Res) -> Option Res
 | [.ptr 0 []], [.box false 138 (.st 138 [.ro 5 y0 y1 r_B, .sc (.int .i64 r_P), .sc (.int .i64 y2)])], k => g86 0 y0 y1 r_B r_P y2 k
 | _, _, _ => none
def s86 : Sig := { own := [], run := Jms }
theorem JD2 : Jf tau Try.prog 86 s86 := JP Jq JuA Jr Jya Jyb Jpd [.ro] 1 [] Jms (JD1 0) fun xs es k res hr => by
 unfold Jms at hr
 split at hr
 · exact ⟨rfl, 0, (e86 0 _ _ _ _ _  _).trans hr⟩
 · cases hr
-- FN (*ref1.Reader).Int | (*ref1.Reader).Byte | (*ref1.Reader).Text
theorem JcP (k : IntKind) (x y : Int) : JH .or k x y = JH .or k y x := by simp only [JH]; rw [BitVec.or_comm]
theorem Jr6 (L : List Int) (hL : ∀ x ∈ L, 0 <= x /\ x < 256) (h8 : L.length <= 8) (f : Nat) (k0 : Int -> Bool -> Bool -> List PV -> Int -> Int -> Option Res) (a b c d : Bool) (R : List PV) (P e : Int) : ∀ (i n : Nat), i <= L.length -> i < n ->
  VC f k0 n (QM (L.drop i)) a b (pu .u8 L) ((i : Int) - 1) c d R P e = k0 (QM L) c d R P e
 | 0, n + 1, h, hn => by
   simp only [VC, Gm, List.drop_zero]
   exact Jv (by decide)
 | i + 1, n + 1, h, hn => by
   have g0 : ((i + 1 : Nat) : Int) - 1 = (i : Int) := by omega
   have g1 : ((i : Int)).toNat = i := by omega
   have h1 : IntKind.i64.wrap ((i : Int) - 1) = (i : Int) - 1 := wrap_i64 (by omega) (by omega)
   have hi : i < L.length := by omega
   have hx := hL (L.getD i 0) (by rw [List.getD_eq_getElem?_getD, List.getElem?_eq_getElem hi]; exact List.getElem_mem hi)
   rw [g0]
   simp only [VC, Gm, g1, h1]
   rw [JW hi, Qr hi]
   refine (Jb (by simp)).trans ((Jb (by simp [zi]; omega)).trans ?_)
   have hd : L.drop i = L.getD i 0 :: L.drop (i + 1) := by
    rw [List.drop_eq_getElem_cons hi, List.getD_eq_getElem?_getD, List.getElem?_eq_getElem hi]; rfl
   have hb := Xu (L.drop (i + 1)) fun x hx => hL x (List.mem_of_mem_drop hx)
   have hp : (256 : Int) ^ (L.drop (i + 1)).length <= 2 ^ 56 := by
    rw [JhR]
    have h : (2 ^ (8 * (L.drop (i + 1)).length) : Nat) <= 2 ^ 56 := Nat.pow_le_pow_right (by omega) (by rw [List.length_drop]; omega)
    have e2 : ((2 : Int)) ^ (8 * (L.drop (i + 1)).length) = ((2 ^ (8 * (L.drop (i + 1)).length) : Nat) : Int) := by rw [Int.natCast_pow]; rfl
    have e3 : ((2 : Int)) ^ 56 = ((2 ^ 56 : Nat) : Int) := by rw [Int.natCast_pow]; rfl
    rw [e2, e3]; exact Int.ofNat_le.2 h
   have h56 : (2 : Int) ^ 56 = 72057594037927936 := by decide
   rw [h56] at hp
   have hsh : WN .u64 (QM (L.drop (i + 1))) 8 = QM (L.drop (i + 1)) * 2 ^ 8 := by
    rw [WN, Qy]
    have : min (8 : Int).toNat IntKind.u64.bits = 8 := by decide
    rw [this]
    have h8 : (2 : Int) ^ 8 = 256 := by decide
    rw [h8]; omega
   have hw : IntKind.u64.wrap (L.getD i 0) = L.getD i 0 := by rw [Qy]; omega
   have h8 : (2 : Int) ^ 8 = 256 := by decide
   have h64 : (2 : Int) ^ 64 = 18446744073709551616 := by decide
   rw [hsh, hw, JcP, Jga (by omega) hx.1 (by rw [h8]; exact hx.2) hb.1 (by rw [h8, h64]; omega)]
   have hn1 : L.getD i 0 + QM (L.drop (i + 1)) * 2 ^ 8 = QM (L.drop i) := by rw [hd, QM, h8]; omega
   rw [hn1]
   exact Jr6 L hL (by assumption) f k0 a b c d R P e i n (by omega) (by omega)
def JhY : List PV -> List Ent -> (Res -> Option Res) -> Option Res
 | [.ptr 0 []], [.box false 138 (.st 138 [.ro 5 z f B, .sc (.int .i64 P), .sc (.int .i64 e)])], k =>
  bif okT ⟨B, P, e⟩ then k ⟨.sc (.int .i64 (Jy 8 ⟨B, P, e⟩)), [rfP z f (Ja 8 ⟨B, P, e⟩)], []⟩ else none
 | _, _, _ => none
def Jpe : Sig := { own := [], run := JhY }
theorem Gn {t : RT} (h : okT t = true) : byB t.view.b = true := by
 simp only [okT, Bool.and_eq_true] at h
 exact Jf6 h.2.2.1 _
theorem Jpf (B : List PV) (P e : Int) : RS.mk (List.drop (RT.mk B P e).P.toNat (RT.mk B P e).B) (RT.mk B P e).e = RT.view ⟨B, P, e⟩ := rfl
theorem Jmt : Jf tau Try.prog 84 Jpe := Jf.mk' fun xs es k res hl hr => by
 change JhY xs es k = some res at hr
 unfold JhY at hr
 split at hr
 · rename_i z f B P e
   obtain ⟨hc, hr⟩ := JG hr
   have hg : g84 20 z f B P e k = some res := by
    unfold g84
    have hb := Gn hc
    have ho := Qo.1 (Yj (s := RT.view ⟨B, P, e⟩) hb 8)
    have hl8 : (Ji (J0 8 (RT.view ⟨B, P, e⟩))).length <= 8 := by rw [Qx]; exact Wt _ _
    have hw : IntKind.i64.wrap (zi (J0 8 (RT.view ⟨B, P, e⟩)).length - 1) = ((J0 8 (RT.view ⟨B, P, e⟩)).length : Int) - 1 := by
     have := Wt 8 (RT.view ⟨B, P, e⟩)
     simp only [zi]; rw [wrap_i64 (by omega) (by omega)]
    rw [Jb (by rw [hc]; rfl), Jpf, Yi, hw]
    have hL := Jr6 (Ji (J0 8 (RT.view ⟨B, P, e⟩))) ho.2 hl8 20 (fun x0_0 x1_0 x2_0 x3_0 x4_0 x5_0 => k (Res.mk (.sc (.int .i64 (IntKind.i64.wrap x0_0))) [.box false 138 (.st 138 [.ro 5 x1_0 x2_0 x3_0, .sc (.int .i64 x4_0), .sc (.int .i64 x5_0)])] [])) (!okS 8 (RT.view ⟨B, P, e⟩) || z) (!okS 8 (RT.view ⟨B, P, e⟩) || z) z f (Ja 8 ⟨B, P, e⟩).B (Ja 8 ⟨B, P, e⟩).P (Ja 8 ⟨B, P, e⟩).e (Ji (J0 8 (RT.view ⟨B, P, e⟩))).length 20 (by omega) (by omega)
    rw [← Qc ho.1, List.drop_length, Qx] at hL
    simp only [QM] at hL
    refine hL.trans ?_
    rw [Jbo] at hr
    exact hr
   exact Qj Jq Jmq Jr Jx6 Jx7 (Jpa (Jb2 20)) [.ro] 1 0 (JDW 20) hl rfl ((e84 20 z f B P e k).trans hg)
 · cases hr
def JhZ : List PV -> List Ent -> (Res -> Option Res) -> Option Res
 | [.ptr 0 []], [.box false 138 (.st 138 [.ro 5 z f B, .sc (.int .i64 P), .sc (.int .i64 e)])], k =>
  bif okT ⟨B, P, e⟩ then k ⟨.sc (.int .i64 (Jy 1 ⟨B, P, e⟩)), [rfP z f (Ja 1 ⟨B, P, e⟩)], []⟩ else none
 | _, _, _ => none
def Jpg : Sig := { own := [], run := JhZ }
theorem Jmu : Jf tau Try.prog 83 Jpg := JDZ.of fun xs es k res hr => by
 change JhZ xs es k = some res at hr
 unfold JhZ at hr
 split at hr
 · rename_i z f B P e
   obtain ⟨hc, hr⟩ := JG hr
   show g83 0 z f B P e k = some res
   unfold g83
   have hb := Gn hc
   have hv : RT.view ⟨B, P, e⟩ = ⟨List.drop P.toNat B, e⟩ := rfl
   rw [hv] at hb
   have ho := Qo.1 (Yj hb 1)
   have hl := Wt 1 ⟨List.drop P.toNat B, e⟩
   rw [Jbo, QK, hv] at hr
   simp only [Yi]
   rw [Jb (by rw [hc]; rfl)]
   generalize J0 1 ⟨List.drop P.toNat B, e⟩ = O at *
   match O, hl with
   | [], _ => exact hr
   | [p], _ =>
    have h1 : p.isInt .u8 = true := by simpa [Jh] using ho.1
    have h2 := ho.2 p.int (by simp [Ji])
    refine (Jv rfl).trans ((Jb (by simp [zi, h1])).trans ?_)
    have : QM (Ji [p]) = p.int := by simp [Ji, QM]
    rw [this] at hr
    exact hr
 · cases hr
def Jh0 : List PV -> List Ent -> (Res -> Option Res) -> Option Res
 | [.ptr 0 []], [.box false 138 (.st 138 [.ro 5 z f B, .sc (.int .i64 P), .sc (.int .i64 e)])], k =>
  bif okT ⟨B, P, e⟩ then k ⟨.sc (.string (JM ⟨B, P, e⟩)), [rfP z f (J3 ⟨B, P, e⟩)], []⟩ else none
 | _, _, _ => none
def JuB : Sig := { own := [], run := Jh0 }
theorem Jr7 : Jf tau Try.prog 86 JuB := JD2.of fun xs es k res hr => by
 change Jh0 xs es k = some res at hr
 unfold Jh0 at hr
 split at hr
 · rename_i z f B P e
   obtain ⟨hc, hr⟩ := JG hr
   show g86 0 z f B P e k = some res
   unfold g86
   have hb := Gn hc
   have hv : RT.view ⟨B, P, e⟩ = ⟨List.drop P.toNat B, e⟩ := rfl
   rw [hv] at hb
   rw [Jf7, Jev] at hr
   have hk2 : okT (Ja 2 ⟨B, P, e⟩) = true := Qv hc 2
   have hv2 : ∀ t : RT, RS.mk (List.drop t.P.toNat t.B) t.e = t.view := fun t => rfl
   have hst : (QG 2 ⟨B, P, e⟩).view = J1 2 ⟨List.drop P.toNat B, e⟩ := X2 2 ⟨B, P, e⟩
   rw [Jb (by rw [hc]; rfl)]
   simp only [Yi, JhQ]
   cases hk : WE 2 ⟨List.drop P.toNat B, e⟩ with
   | false =>
    have hO : J0 2 ⟨List.drop P.toNat B, e⟩ = [] := by unfold J0; rw [hk]; rfl
    have hN : QK 2 ⟨List.drop P.toNat B, e⟩ = 0 := by unfold QK; rw [hO]; rfl
    have he : (J1 2 ⟨List.drop P.toNat B, e⟩).e ≠ 0 := by
      unfold J1; rw [hk]
      by_cases h0 : e = 0
      · subst h0; show (8 : Int) ≠ 0; decide
      · have : (e == 0) = false := by simpa using h0
        simp only [cond_false, this]; exact h0
    have hnk : WE 0 (J1 2 ⟨List.drop P.toNat B, e⟩) = false := by
      unfold WE
      have : ((J1 2 ⟨List.drop P.toNat B, e⟩).e == 0) = false := by simpa using he
      rw [this]; rfl
    have h1 : Gi (RT.view ⟨B, P, e⟩) = ByteArray.mk (Array.mk []) := by
      rw [hv]; unfold Gi; rw [hN]
      have : J0 (0 : Int).toNat (J1 2 ⟨List.drop P.toNat B, e⟩) = [] := by
        show J0 0 _ = []
        unfold J0; rw [hnk]; rfl
      rw [this]; rfl
    have h2 : Gk ⟨B, P, e⟩ = QG 2 ⟨B, P, e⟩ := by
      unfold Gk; rw [hv, hN]
      rw [← hst] at he
      exact Jlo he _
    rw [h1, h2] at hr
    rw [hO]
    refine (Jb rfl).trans ?_
    rw [WF]
    exact hr
   | true =>
    have hO : J0 2 ⟨List.drop P.toNat B, e⟩ = List.take 2 (List.drop P.toNat B) := by unfold J0; rw [hk]; rfl
    have hlen : 2 <= (List.drop P.toNat B).length := by
      simp only [WE, Bool.and_eq_true, Nat.ble_eq] at hk; exact hk.2
    obtain ⟨p, q, hpq⟩ : ∃ p q, J0 2 ⟨List.drop P.toNat B, e⟩ = [p, q] := by
      rw [hO]
      match h : List.drop P.toNat B, hlen with
      | p :: q :: r, _ => exact ⟨p, q, rfl⟩
    have ho := Qo.1 (Yj hb 2)
    rw [hpq] at ho
    have hp1 : p.isInt .u8 = true /\ q.isInt .u8 = true := by simpa [Jh] using ho.1
    have hp2 := ho.2 p.int (by simp [Ji])
    have hq2 := ho.2 q.int (by simp [Ji])
    have hw : IntKind.i64.wrap (IntKind.i64.wrap p.int + IntKind.i64.wrap (256 * IntKind.i64.wrap q.int)) = p.int + 256 * q.int := by
      rw [wrap_i64 (x := p.int) (by omega) (by omega), wrap_i64 (x := q.int) (by omega) (by omega), wrap_i64 (x := 256 * q.int) (by omega) (by omega), wrap_i64 (by omega) (by omega)]
    have hN : QK 2 ⟨List.drop P.toNat B, e⟩ = p.int + 256 * q.int := by
      unfold QK; rw [hpq]
      show IntKind.i64.wrap (QM [p.int, q.int]) = _
      simp only [QM]
      rw [wrap_i64 (by omega) (by omega)]; omega
    have g0 : ([p, q] : List PV).getD 0 PV.top = p := rfl
    have g1 : ([p, q] : List PV).getD 1 PV.top = q := rfl
    simp only [hpq, g0, g1, hw]
    refine (Jv rfl).trans ((Jb (by simp [zi, hp1.1])).trans ((Jb (by simp [zi, hp1.2])).trans ((Jb ?_).trans ?_)))
    · rw [hk2]; simp; omega
    have h1 : Gi (RT.view ⟨B, P, e⟩) = ⟨(Jp (J0 (p.int + 256 * q.int).toNat (Ja 2 ⟨B, P, e⟩).view)).toArray⟩ := by
      rw [hv]; unfold Gi; rw [hN, WF, hst]
    have h2 : Gk ⟨B, P, e⟩ = Ja (p.int + 256 * q.int).toNat (Ja 2 ⟨B, P, e⟩) := by
      unfold Gk; rw [hv, hN, WF, WF]
    have hbo : Jh .u8 (J0 (p.int + 256 * q.int).toNat (Ja 2 ⟨B, P, e⟩).view) = true := (Qo.1 (Yj (Gn hk2) _)).1
    rw [h1, h2] at hr
    refine (Jb (by rw [Bool.and_true]; exact hbo)).trans ?_
    exact hr
 · cases hr
def N87 : Nat := 16
def F87 : Fns := JC 83 Jpg (F0)
theorem Jmv : Ju tau Try.prog F87 := (JB).add Jmu Juz
def Jdr : Code := Qu (Try.f87.body.get!) [1, 1, 0, 1, 0, 0]
def Ym : Nm := [(0, .any), (2, .any), (3, .any), (4, .any)]
def Zi : Nm := [(2, .any), (3, .any)]
def Jgc : An := (.seq (.seq .leaf (.cond .leaf .leaf)) (.seq (.block none .leaf) .leaf))
def Jph (r0 : QJ) : An := (.seq .leaf (.seq .leaf (.seq (.seq .leaf (.block none (.sum Ym N87 r0))) (.seq .leaf .leaf))))
def Gp (f : Nat) (rc : Int -> Bool -> Bool -> List PV -> Int -> Int -> List PV -> List PV -> Option Res) (k0 : Bool -> Bool -> List PV -> Int -> Int -> List PV -> List PV -> Option Res) (v0 : Int) (v1 v2 : Bool) (v3 : List PV) (v4 v5 : Int) (v6 v7 : List PV) : Option Res := bif decide (v0 < 32) then bif okT (RT.mk v3 v4 v5) then bif decide (0 <= v0) && decide (v0 < zi 32) && true then rc (IntKind.i64.wrap (v0 + 1)) v1 v2 ((Ja 1 (RT.mk v3 v4 v5)).B) ((Ja 1 (RT.mk v3 v4 v5)).P) ((Ja 1 (RT.mk v3 v4 v5)).e) v6 (v7.set v0.toNat (.sc (.int .u8 (IntKind.u8.wrap (Jy 1 (RT.mk v3 v4 v5)))))) else none else none else k0 v1 v2 v3 v4 v5 v6 v7
def VD (f : Nat) (k0 : Bool -> Bool -> List PV -> Int -> Int -> List PV -> List PV -> Option Res) : Nat -> Int -> Bool -> Bool -> List PV -> Int -> Int -> List PV -> List PV -> Option Res
 | 0, _, _, _, _, _, _, _, _ => none
 | n + 1, v0, v1, v2, v3, v4, v5, v6, v7 => Gp f (VD f k0 n) k0 v0 v1 v2 v3 v4 v5 v6 v7
theorem Jpi (f : Nat) (k : Kont) (n : Nat) (v0 : Int) (v1 v2 : Bool) (v3 : List PV) (v4 v5 : Int) (v6 v7 : List PV) : Jn tau 1 Ym (fun s k => ev tau F87 1 0 Jdr (Jgc ) s k) (n + 1) (Jd Ym N87 [.ptr 0 [], .ptr 273 [], .ptr 274 [], .sc (.int .i64 v0)] [(0, .box false 138 (PV.st 138 [.ro 5 v1 v2 v3, .sc (.int .i64 v4), .sc (.int .i64 v5)])), (273, .box false 37 (PV.ar 37 v6)), (274, .box false 37 (PV.ar 37 v7))]) (Jt tau 1 Zi k) = Gp f (fun v0 v1 v2 v3 v4 v5 v6 v7 => Jn tau 1 Ym (fun s k => ev tau F87 1 0 Jdr (Jgc ) s k) n (Jd Ym N87 [.ptr 0 [], .ptr 273 [], .ptr 274 [], .sc (.int .i64 v0)] [(0, .box false 138 (PV.st 138 [.ro 5 v1 v2 v3, .sc (.int .i64 v4), .sc (.int .i64 v5)])), (273, .box false 37 (PV.ar 37 v6)), (274, .box false 37 (PV.ar 37 v7))]) (Jt tau 1 Zi k)) (fun x0 x1 x2 x3 x4 x5 x6 => k (Ex.exit 0) (Jd Zi N87 [.ptr 273 [], .ptr 274 []] [(0, .box false 138 (PV.st 138 [.ro 5 x0 x1 x2, .sc (.int .i64 x3), .sc (.int .i64 x4)])), (273, .box false 37 (PV.ar 37 x5)), (274, .box false 37 (PV.ar 37 x6))])) v0 v1 v2 v3 v4 v5 v6 v7 := by kernel_rfl
theorem JjH (f : Nat) (k : Kont) : ∀ (n : Nat) (v0 : Int) (v1 v2 : Bool) (v3 : List PV) (v4 v5 : Int) (v6 v7 : List PV), Jn tau 1 Ym (fun s k => ev tau F87 1 0 Jdr (Jgc ) s k) n (Jd Ym N87 [.ptr 0 [], .ptr 273 [], .ptr 274 [], .sc (.int .i64 v0)] [(0, .box false 138 (PV.st 138 [.ro 5 v1 v2 v3, .sc (.int .i64 v4), .sc (.int .i64 v5)])), (273, .box false 37 (PV.ar 37 v6)), (274, .box false 37 (PV.ar 37 v7))]) (Jt tau 1 Zi k) = VD f (fun x0 x1 x2 x3 x4 x5 x6 => k (Ex.exit 0) (Jd Zi N87 [.ptr 273 [], .ptr 274 []] [(0, .box false 138 (PV.st 138 [.ro 5 x0 x1 x2, .sc (.int .i64 x3), .sc (.int .i64 x4)])), (273, .box false 37 (PV.ar 37 x5)), (274, .box false 37 (PV.ar 37 x6))])) n v0 v1 v2 v3 v4 v5 v6 v7 | 0, _, _, _, _, _, _, _, _ => rfl | n + 1, v0, v1, v2, v3, v4, v5, v6, v7 => (Jpi f k n v0 v1 v2 v3 v4 v5 v6 v7).trans (congrArg (fun r => Gp f r (fun x0 x1 x2 x3 x4 x5 x6 => k (Ex.exit 0) (Jd Zi N87 [.ptr 273 [], .ptr 274 []] [(0, .box false 138 (PV.st 138 [.ro 5 x0 x1 x2, .sc (.int .i64 x3), .sc (.int .i64 x4)])), (273, .box false 37 (PV.ar 37 x5)), (274, .box false 37 (PV.ar 37 x6))])) v0 v1 v2 v3 v4 v5 v6 v7) (by funext v0 v1 v2 v3 v4 v5 v6 v7; exact JjH f k n v0 v1 v2 v3 v4 v5 v6 v7))
def Jb3 (f : Nat) : List PV -> List (Nat × Ent) -> Kont -> Option Res
 | [.ptr 0 [], .ptr 273 [], .ptr 274 [],
 PV.sc
  (Value.int IntKind.i64
   v0)], [(0, .box false 138 (PV.st 138 [.ro 5 v1 v2 v3, .sc (.int .i64 v4), .sc (.int .i64 v5)])), (273, .box false 37 (PV.ar 37 v6)),
 (274,
  Ent.box false 37
   (PV.ar 37
    v7))], k => VD f (fun x0 x1 x2 x3 x4 x5 x6 => k (Ex.exit
 0) (Jd Zi N87 [.ptr 273 [],
 PV.ptr 274
  []] [(0, .box false 138 (PV.st 138 [.ro 5 x0 x1 x2, .sc (.int .i64 x3), .sc (.int .i64 x4)])), (273, .box false 37 (PV.ar 37 x5)),
 (274, .box false 37 (PV.ar 37 x6))])) f v0 v1 v2 v3 v4 v5 v6 v7
 | _, _, _ => none
theorem JuC (f : Nat) : Je Jdr Jgc = [] := by kernel_rfl
theorem Jyd (f : Nat) : (Item.l Jdr Ym N87 (Jb3 f)).Ok tau Try.prog 1 := JI Jq Jmv Jr (x := Jgc) (nm2 := Zi) (Js _ _ (by rw [JuC f]; intro q hq; cases hq)) fun vs hp k res hr => by
 unfold Jb3 at hr
 split at hr
 · exact ⟨f, 0, (JjH f _ f _ _ _ _ _ _ _ _ ).trans hr⟩
 · cases hr
def g87 (f : Nat) (y0 y1 : Bool) (r_B : List PV) (r_P y2 : Int) (k : Res -> Option Res) : Option Res := VD f (fun x0_0 x1_0 x2_0 x3_0 x4_0 x5_0 x6_0 => k (Res.mk (.ar 37 x6_0) [.box false 138 (PV.st 138 [.ro 5 x0_0 x1_0 x2_0, .sc (.int .i64 x3_0), .sc (.int .i64 x4_0)])] [])) f (0) y0 y1 r_B r_P y2 ([.sc (.int .u8 0), .sc (.int .u8 0), .sc (.int .u8 0), .sc (.int .u8 0), .sc (.int .u8 0), .sc (.int .u8 0), .sc (.int .u8 0), .sc (.int .u8 0), .sc (.int .u8 0), .sc (.int .u8 0), .sc (.int .u8 0), .sc (.int .u8 0), .sc (.int .u8 0), .sc (.int .u8 0), .sc (.int .u8 0), .sc (.int .u8 0), .sc (.int .u8 0), .sc (.int .u8 0), .sc (.int .u8 0), .sc (.int .u8 0), .sc (.int .u8 0), .sc (.int .u8 0), .sc (.int .u8 0), .sc (.int .u8 0), .sc (.int .u8 0), .sc (.int .u8 0), .sc (.int .u8 0), .sc (.int .u8 0), .sc (.int .u8 0), .sc (.int .u8 0), .sc (.int .u8 0), .sc (.int .u8 0)]) ([.sc (.int .u8 0), .sc (.int .u8 0), .sc (.int .u8 0), .sc (.int .u8 0), .sc (.int .u8 0), .sc (.int .u8 0), .sc (.int .u8 0), .sc (.int .u8 0), .sc (.int .u8 0), .sc (.int .u8 0), .sc (.int .u8 0), .sc (.int .u8 0), .sc (.int .u8 0), .sc (.int .u8 0), .sc (.int .u8 0), .sc (.int .u8 0), .sc (.int .u8 0), .sc (.int .u8 0), .sc (.int .u8 0), .sc (.int .u8 0), .sc (.int .u8 0), .sc (.int .u8 0), .sc (.int .u8 0), .sc (.int .u8 0), .sc (.int .u8 0), .sc (.int .u8 0), .sc (.int .u8 0), .sc (.int .u8 0), .sc (.int .u8 0), .sc (.int .u8 0), .sc (.int .u8 0), .sc (.int .u8 0)])
theorem e87 (f : Nat) (y0 y1 : Bool) (r_B : List PV) (r_P y2 : Int) (k : Res -> Option Res) : JN tau F87 Try.f87 (Try.f87.body.get!) (Jph (Jb3 f)) [.ro] 0 [.ptr 0 []] [.box false 138 (.st 138 [.ro 5 y0 y1 r_B, .sc (.int .i64 r_P), .sc (.int .i64 y2)])] k = g87 f y0 y1 r_B r_P y2 k := by kernel_rfl
theorem JD3 (f : Nat) : Je (Try.f87.body.get!) (Jph (Jb3 f)) = [.l Jdr Ym N87 (Jb3 f)] := by kernel_rfl
theorem JD4 (f : Nat) : ∀ q ∈ Je (Try.f87.body.get!) (Jph (Jb3 f)), q.Ok tau Try.prog 1 := by
 rw [JD3 f]; simp only [List.forall_mem_cons, List.not_mem_nil, false_implies, implies_true, and_true]; exact Jyd f
theorem Jye : Try.prog.funcs[87]? = some Try.f87 := by kernel_rfl
theorem Jyf : Try.f87.body = some (Try.f87.body.get!) := by kernel_rfl
theorem JD5 : Enters Try.prog 87 := enters_of Jye (by kernel_rfl) Jyf
def Jyg : Fns := F0
theorem Jpj : Ju tau Try.prog Jyg := JB
def JjI : An := (.seq .leaf (.seq .leaf (.seq .leaf .leaf)))
def Jyh (f : Nat) (x k1 : Int) (k : Res -> Option Res) : Option Res := bif decide (0 <= IntKind.u64.wrap (32 - JH BinOp.and IntKind.u64 (IntKind.u64.wrap k1) 31)) && true then k (Res.mk (.sc (.int .u32 (JH BinOp.or IntKind.u32 (WN IntKind.u32 x (JH BinOp.and IntKind.u64 (IntKind.u64.wrap k1) 31)) (JD IntKind.u32 x (IntKind.u64.wrap (32 - JH BinOp.and IntKind.u64 (IntKind.u64.wrap k1) 31)))))) [] []) else none
theorem JD6 (f : Nat) (x k1 : Int) (k : Res -> Option Res) : JN tau Jyg Try.f149 (Try.f149.body.get!) JjI [.ro] 0 [.sc (.int .u32 x), .sc (.int .i64 k1)] [] k = Jyh f x k1 k := by kernel_rfl
theorem Jyi (f : Nat) : Je (Try.f149.body.get!) JjI = [] := by kernel_rfl
theorem Jyj (f : Nat) : ∀ q ∈ Je (Try.f149.body.get!) JjI, q.Ok tau Try.prog 0 := by
 rw [Jyi f]; intro q hq; cases hq
theorem Jr8 : Try.prog.funcs[149]? = some Try.f149 := by kernel_rfl
theorem Jr9 : Try.f149.body = some (Try.f149.body.get!) := by kernel_rfl
theorem Jyk : Enters Try.prog 149 := enters_of Jr8 (by kernel_rfl) Jr9
def Jh1 : List PV -> List Ent -> (Res -> Option Res) -> Option Res
 | [.sc (.int .u32 x), .sc (.int .i64 k1)], [], k => Jyh 0 x k1 k
 | _, _, _ => none
def Jyl : Sig := { own := [], run := Jh1 }
theorem Jym : Jf tau Try.prog 149 Jyl := JP Jq Jpj Jr Jr8 Jr9 JjI [.ro] 0 [] Jh1 (Jyj 0) fun xs es k res hr => by
 unfold Jh1 at hr
 split at hr
 · exact ⟨rfl, 0, (JD6 0 _ _  _).trans hr⟩
 · cases hr
def Jyn : Fns := JC 149 Jyl (F0)
theorem Jpk : Ju tau Try.prog Jyn := (JB).add Jym Jyk
def JjJ : An := (.seq .leaf (.seq .leaf .leaf))
def Jpl (f : Nat) (x n : Int) (k : Res -> Option Res) : Option Res := bif decide (0 <= IntKind.u64.wrap (32 - JH BinOp.and IntKind.u64 (IntKind.u64.wrap (IntKind.i64.wrap (0 - n))) 31)) && true then k (Res.mk (.sc (.int .u32 (JH BinOp.or IntKind.u32 (WN IntKind.u32 x (JH BinOp.and IntKind.u64 (IntKind.u64.wrap (IntKind.i64.wrap (0 - n))) 31)) (JD IntKind.u32 x (IntKind.u64.wrap (32 - JH BinOp.and IntKind.u64 (IntKind.u64.wrap (IntKind.i64.wrap (0 - n))) 31)))))) [] []) else none
theorem JD7 (f : Nat) (x n : Int) (k : Res -> Option Res) : JN tau Jyn Try.f124 (Try.f124.body.get!) JjJ [.ro] 0 [.sc (.int .u32 x), .sc (.int .i64 n)] [] k = Jpl f x n k := by kernel_rfl
theorem Jyo (f : Nat) : Je (Try.f124.body.get!) JjJ = [] := by kernel_rfl
theorem Jyp (f : Nat) : ∀ q ∈ Je (Try.f124.body.get!) JjJ, q.Ok tau Try.prog 0 := by
 rw [Jyo f]; intro q hq; cases hq
theorem Jsa : Try.prog.funcs[124]? = some Try.f124 := by kernel_rfl
theorem Jsb : Try.f124.body = some (Try.f124.body.get!) := by kernel_rfl
theorem Jsc : Enters Try.prog 124 := enters_of Jsa (by kernel_rfl) Jsb
def Jh2 : List PV -> List Ent -> (Res -> Option Res) -> Option Res
 | [.sc (.int .u32 x), .sc (.int .i64 n)], [], k => Jpl 0 x n k
 | _, _, _ => none
def JD8 : Sig := { own := [], run := Jh2 }
theorem Jyq : Jf tau Try.prog 124 JD8 := JP Jq Jpk Jr Jsa Jsb JjJ [.ro] 0 [] Jh2 (Jyp 0) fun xs es k res hr => by
 unfold Jh2 at hr
 split at hr
 · exact ⟨rfl, 0, (JD7 0 _ _  _).trans hr⟩
 · cases hr
def F73 : Fns := F0
theorem JuD : Ju tau Try.prog F73 := JB
def Jpm : An := (.seq .leaf (.seq .leaf .leaf))
def g73 (f : Nat) (x n : Int) (k : Res -> Option Res) : Option Res := bif decide (0 <= n) && true then bif decide (0 <= IntKind.u64.wrap (32 - n)) && true then k (Res.mk (.sc (.int .u32 (JH BinOp.or IntKind.u32 (JD IntKind.u32 x n) (WN IntKind.u32 x (IntKind.u64.wrap (32 - n)))))) [] []) else none else none
theorem e73 (f : Nat) (x n : Int) (k : Res -> Option Res) : JN tau F73 Try.f73 (Try.f73.body.get!) Jpm [.ro] 0 [.sc (.int .u32 x), .sc (.int .u64 n)] [] k = g73 f x n k := by kernel_rfl
theorem JD9 (f : Nat) : Je (Try.f73.body.get!) Jpm = [] := by kernel_rfl
theorem JEa (f : Nat) : ∀ q ∈ Je (Try.f73.body.get!) Jpm, q.Ok tau Try.prog 0 := by
 rw [JD9 f]; intro q hq; cases hq
theorem Jyr : Try.prog.funcs[73]? = some Try.f73 := by kernel_rfl
theorem Jys : Try.f73.body = some (Try.f73.body.get!) := by kernel_rfl
theorem JEb : Enters Try.prog 73 := enters_of Jyr (by kernel_rfl) Jys
def Jmw : List PV -> List Ent -> (Res -> Option Res) -> Option Res
 | [.sc (.int .u32 x), .sc (.int .u64 n)], [], k => g73 0 x n k
 | _, _, _ => none
def s73 : Sig := { own := [], run := Jmw }
theorem JEc : Jf tau Try.prog 73 s73 := JP Jq JuD Jr Jyr Jys Jpm [.ro] 0 [] Jmw (JEa 0) fun xs es k res hr => by
 unfold Jmw at hr
 split at hr
 · exact ⟨rfl, 0, (e73 0 _ _  _).trans hr⟩
 · cases hr
-- FN sha.right | ref2.rot
def rr (x n : Int) : Int := JH .or .u32 (WN .u32 x (32 - n)) (JD .u32 x n)
theorem JeA (x y : Int) : JH .or .u32 x y = JH .or .u32 y x := by
 simp only [JH]; rw [BitVec.or_comm]
theorem Jmx {P : Int -> Prop} (h : ∀ m : Nat, m < 31 -> P ((m : Int) + 1)) (n : Int) (h1 : 1 <= n) (h2 : n <= 31) : P n := by
 have := h (n - 1).toNat (by omega)
 have he : (((n - 1).toNat : Nat) : Int) + 1 = n := by omega
 rwa [he] at this
def JeB : List PV -> List Ent -> (Res -> Option Res) -> Option Res
 | [.sc (.int .u32 x), .sc (.int .i64 n)], [], k => bif decide (1 <= n) && decide (n <= 31) then k ⟨.sc (.int .u32 (rr x n)), [], []⟩ else none
 | _, _, _ => none
def Jmy : Sig := { own := [], run := JeB }
theorem Jh3 (x : Int) (k : Res -> Option Res) (n : Int) (h1 : 1 <= n) (h2 : n <= 31) : Jpl 0 x n k = k ⟨.sc (.int .u32 (rr x n)), [], []⟩ := by
 refine Jmx (P := fun n => Jpl 0 x n k = k ⟨.sc (.int .u32 (rr x n)), [], []⟩) ?_ n h1 h2
 intro m hm
 iterate 31 (rcases m with _ | m; · kernel_rfl)
 omega
theorem Jmz : Jf tau Try.prog 124 Jmy := Jyq.of fun xs es k res hr => by
 change JeB xs es k = some res at hr
 unfold JeB at hr
 split at hr
 · obtain ⟨hc, hr⟩ := JG hr
   simp only [Bool.and_eq_true, decide_eq_true_eq] at hc
   exact (Jh3 _ _ _ hc.1 hc.2).trans hr
 · cases hr
def Jh4 : List PV -> List Ent -> (Res -> Option Res) -> Option Res
 | [.sc (.int .u32 x), .sc (.int .u64 n)], [], k => bif decide (1 <= n) && decide (n <= 31) then k ⟨.sc (.int .u32 (rr x n)), [], []⟩ else none
 | _, _, _ => none
def Jyt : Sig := { own := [], run := Jh4 }
theorem Jlp (x : Int) (k : Res -> Option Res) (n : Int) (h1 : 1 <= n) (h2 : n <= 31) : g73 0 x n k = k ⟨.sc (.int .u32 (rr x n)), [], []⟩ := by
 have hc : ∀ n, rr x n = JH .or .u32 (JD .u32 x n) (WN .u32 x (32 - n)) := fun n => JeA _ _
 rw [hc]
 refine Jmx (P := fun n => g73 0 x n k = k ⟨.sc (.int .u32 (JH .or .u32 (JD .u32 x n) (WN .u32 x (32 - n)))), [], []⟩) ?_ n h1 h2
 intro m hm
 iterate 31 (rcases m with _ | m; · kernel_rfl)
 omega
theorem Jyu : Jf tau Try.prog 73 Jyt := JEc.of fun xs es k res hr => by
 change Jh4 xs es k = some res at hr
 unfold Jh4 at hr
 split at hr
 · obtain ⟨hc, hr⟩ := JG hr
   simp only [Bool.and_eq_true, decide_eq_true_eq] at hc
   exact (Jlp _ _ _ hc.1 hc.2).trans hr
 · cases hr
def X3 : Nat := 89
def Jgd : Fns := JC 124 Jmy (F0)
theorem JeC : Ju tau Try.prog Jgd := (JB).add Jmz Jsc
def Jag : Code := Qu (Try.f122.body.get!) [1, 1, 0, 1, 0, 0]
def WU : Nm := [(0, .any), (2, .any), (3, .any), (8, .any)]
def Xw : Nm := [(2, .any), (3, .any)]
def Jb4 : An := (.seq .leaf (.seq (.cond .leaf .leaf) (.seq (.block none (.seq .leaf .leaf)) .leaf)))
def Jah : Code := Qu (Try.f122.body.get!) [1, 1, 1, 0, 1, 0, 0]
def WV : Nm := [(2, .any), (3, .any), (5, .any)]
def Xx : Nm := [(2, .any), (3, .any)]
def Jb5 : An := (.seq (.seq .leaf (.cond .leaf .leaf)) (.seq (.block none (.seq .leaf .leaf)) .leaf))
def JmA (r0 : QJ) (r1 : QJ) : An := (.seq .leaf (.seq .leaf (.seq (.seq .leaf (.block none (.sum WU X3 r0))) (.seq (.seq .leaf (.block none (.sum WV X3 r1))) (.seq .leaf .leaf)))))
def Zj (f : Nat) (rc : Bool -> Bool -> List PV -> Int -> List PV -> List PV -> Option Res) (k0 : List PV -> List PV -> Option Res) (v0 v1 : Bool) (v2 : List PV) (v3 : Int) (v4 v5 : List PV) : Option Res := bif decide (v3 < 16) then bif decide (0 <= IntKind.i64.wrap (4 * v3)) && decide (IntKind.i64.wrap (4 * v3) < zi v2.length) && PV.isInt IntKind.u8 (v2.getD (IntKind.i64.wrap (4 * v3)).toNat PV.top) && true then bif decide (0 <= IntKind.i64.wrap (IntKind.i64.wrap (4 * v3) + 1)) && decide (IntKind.i64.wrap (IntKind.i64.wrap (4 * v3) + 1) < zi v2.length) && PV.isInt IntKind.u8 (v2.getD (IntKind.i64.wrap (IntKind.i64.wrap (4 * v3) + 1)).toNat PV.top) && true then bif decide (0 <= IntKind.i64.wrap (IntKind.i64.wrap (4 * v3) + 2)) && decide (IntKind.i64.wrap (IntKind.i64.wrap (4 * v3) + 2) < zi v2.length) && PV.isInt IntKind.u8 (v2.getD (IntKind.i64.wrap (IntKind.i64.wrap (4 * v3) + 2)).toNat PV.top) && true then bif decide (0 <= IntKind.i64.wrap (IntKind.i64.wrap (4 * v3) + 3)) && decide (IntKind.i64.wrap (IntKind.i64.wrap (4 * v3) + 3) < zi v2.length) && PV.isInt IntKind.u8 (v2.getD (IntKind.i64.wrap (IntKind.i64.wrap (4 * v3) + 3)).toNat PV.top) && true then bif decide (0 <= v3) && decide (v3 < zi 64) && true then rc v0 v1 v2 (IntKind.i64.wrap (v3 + 1)) v4 (v5.set v3.toNat (.sc (.int .u32 (JH BinOp.or IntKind.u32 (JH BinOp.or IntKind.u32 (JH BinOp.or IntKind.u32 (WN IntKind.u32 (IntKind.u32.wrap (v2.getD (IntKind.i64.wrap (4 * v3)).toNat PV.top).int) 24) (WN IntKind.u32 (IntKind.u32.wrap (v2.getD (IntKind.i64.wrap (IntKind.i64.wrap (4 * v3) + 1)).toNat PV.top).int) 16)) (WN IntKind.u32 (IntKind.u32.wrap (v2.getD (IntKind.i64.wrap (IntKind.i64.wrap (4 * v3) + 2)).toNat PV.top).int) 8)) (IntKind.u32.wrap (v2.getD (IntKind.i64.wrap (IntKind.i64.wrap (4 * v3) + 3)).toNat PV.top).int))))) else none else none else none else none else none else k0 v4 v5
def Xy (f : Nat) (k0 : List PV -> List PV -> Option Res) : Nat -> Bool -> Bool -> List PV -> Int -> List PV -> List PV -> Option Res
 | 0, _, _, _, _, _, _ => none
 | n + 1, v0, v1, v2, v3, v4, v5 => Zj f (Xy f k0 n) k0 v0 v1 v2 v3 v4 v5
theorem JmB (f : Nat) (k : Kont) (n : Nat) (v0 v1 : Bool) (v2 : List PV) (v3 : Int) (v4 v5 : List PV) : Jn tau 0 WU (fun s k => ev tau Jgd 0 0 Jag (Jb4 ) s k) (n + 1) (Jd WU X3 [.ro 5 v0 v1 v2, .ptr 1440 [], .ptr 1441 [], .sc (.int .i64 v3)] [(1440, .box false 118 (PV.ar 118 v4)), (1441, .box false 118 (PV.ar 118 v5))]) (Jt tau 0 Xw k) = Zj f (fun v0 v1 v2 v3 v4 v5 => Jn tau 0 WU (fun s k => ev tau Jgd 0 0 Jag (Jb4 ) s k) n (Jd WU X3 [.ro 5 v0 v1 v2, .ptr 1440 [], .ptr 1441 [], .sc (.int .i64 v3)] [(1440, .box false 118 (PV.ar 118 v4)), (1441, .box false 118 (PV.ar 118 v5))]) (Jt tau 0 Xw k)) (fun x0 x1 => k (Ex.exit 0) (Jd Xw X3 [.ptr 1440 [], .ptr 1441 []] [(1440, .box false 118 (PV.ar 118 x0)), (1441, .box false 118 (PV.ar 118 x1))])) v0 v1 v2 v3 v4 v5 := by kernel_rfl
theorem Jge (f : Nat) (k : Kont) : ∀ (n : Nat) (v0 v1 : Bool) (v2 : List PV) (v3 : Int) (v4 v5 : List PV), Jn tau 0 WU (fun s k => ev tau Jgd 0 0 Jag (Jb4 ) s k) n (Jd WU X3 [.ro 5 v0 v1 v2, .ptr 1440 [], .ptr 1441 [], .sc (.int .i64 v3)] [(1440, .box false 118 (PV.ar 118 v4)), (1441, .box false 118 (PV.ar 118 v5))]) (Jt tau 0 Xw k) = Xy f (fun x0 x1 => k (Ex.exit 0) (Jd Xw X3 [.ptr 1440 [], .ptr 1441 []] [(1440, .box false 118 (PV.ar 118 x0)), (1441, .box false 118 (PV.ar 118 x1))])) n v0 v1 v2 v3 v4 v5 | 0, _, _, _, _, _, _ => rfl | n + 1, v0, v1, v2, v3, v4, v5 => (JmB f k n v0 v1 v2 v3 v4 v5).trans (congrArg (fun r => Zj f r (fun x0 x1 => k (Ex.exit 0) (Jd Xw X3 [.ptr 1440 [], .ptr 1441 []] [(1440, .box false 118 (PV.ar 118 x0)), (1441, .box false 118 (PV.ar 118 x1))])) v0 v1 v2 v3 v4 v5) (by funext v0 v1 v2 v3 v4 v5; exact Jge f k n v0 v1 v2 v3 v4 v5))
def Jai (f : Nat) : List PV -> List (Nat × Ent) -> Kont -> Option Res
 | [.ro 5 v0 v1 v2, .ptr 1440 [], .ptr 1441 [],
 PV.sc
  (Value.int IntKind.i64
   v3)], [(1440, .box false 118 (PV.ar 118 v4)),
 (1441,
  Ent.box false 118
   (PV.ar 118
    v5))], k => Xy f (fun x0 x1 => k (Ex.exit
 0) (Jd Xw X3 [.ptr 1440 [], .ptr 1441 []] [(1440, .box false 118 (PV.ar 118 x0)), (1441, .box false 118 (PV.ar 118 x1))])) f v0 v1 v2 v3 v4 v5
 | _, _, _ => none
theorem Jpn (f : Nat) : Je Jag Jb4 = [] := by kernel_rfl
theorem JuE (f : Nat) : (Item.l Jag WU X3 (Jai f)).Ok tau Try.prog 0 := JI Jq JeC Jr (x := Jb4) (nm2 := Xw) (Js _ _ (by rw [Jpn f]; intro q hq; cases hq)) fun vs hp k res hr => by
 unfold Jai at hr
 split at hr
 · exact ⟨f, 0, (Jge f _ f _ _ _ _ _ _ ).trans hr⟩
 · cases hr
def Zk (f : Nat) (rc : Int -> List PV -> List PV -> Option Res) (k0 : List PV -> List PV -> Option Res) (v0 : Int) (v1 v2 : List PV) : Option Res := bif decide (v0 < 64) then bif decide (0 <= IntKind.i64.wrap (v0 - 15)) && decide (IntKind.i64.wrap (v0 - 15) < zi 64) && true then bif PV.isInt IntKind.u32 (Jm (PV.ar 118 v2) [(IntKind.i64.wrap (v0 - 15)).toNat]) && true then bif decide (0 <= IntKind.i64.wrap (v0 - 2)) && decide (IntKind.i64.wrap (v0 - 2) < zi 64) && true then bif PV.isInt IntKind.u32 (Jm (PV.ar 118 v2) [(IntKind.i64.wrap (v0 - 2)).toNat]) && true then bif decide (0 <= IntKind.i64.wrap (v0 - 16)) && decide (IntKind.i64.wrap (v0 - 16) < zi 64) && true then bif PV.isInt IntKind.u32 (Jm (PV.ar 118 v2) [(IntKind.i64.wrap (v0 - 16)).toNat]) && true then bif decide (0 <= IntKind.i64.wrap (v0 - 7)) && decide (IntKind.i64.wrap (v0 - 7) < zi 64) && true then bif PV.isInt IntKind.u32 (Jm (PV.ar 118 v2) [(IntKind.i64.wrap (v0 - 7)).toNat]) && true then bif decide (0 <= v0) && decide (v0 < zi 64) && true then rc (IntKind.i64.wrap (v0 + 1)) v1 (v2.set v0.toNat (.sc (.int .u32 (IntKind.u32.wrap (IntKind.u32.wrap (IntKind.u32.wrap ((Jm (PV.ar 118 v2) [(IntKind.i64.wrap (v0 - 16)).toNat]).int + JH BinOp.xor IntKind.u32 (JH BinOp.xor IntKind.u32 (rr (Jm (PV.ar 118 v2) [(IntKind.i64.wrap (v0 - 15)).toNat]).int 7) (rr (Jm (PV.ar 118 v2) [(IntKind.i64.wrap (v0 - 15)).toNat]).int 18)) (JD IntKind.u32 (Jm (PV.ar 118 v2) [(IntKind.i64.wrap (v0 - 15)).toNat]).int 3)) + (Jm (PV.ar 118 v2) [(IntKind.i64.wrap (v0 - 7)).toNat]).int) + JH BinOp.xor IntKind.u32 (JH BinOp.xor IntKind.u32 (rr (Jm (PV.ar 118 v2) [(IntKind.i64.wrap (v0 - 2)).toNat]).int 17) (rr (Jm (PV.ar 118 v2) [(IntKind.i64.wrap (v0 - 2)).toNat]).int 19)) (JD IntKind.u32 (Jm (PV.ar 118 v2) [(IntKind.i64.wrap (v0 - 2)).toNat]).int 10)))))) else none else none else none else none else none else none else none else none else none else k0 v1 v2
def Xz (f : Nat) (k0 : List PV -> List PV -> Option Res) : Nat -> Int -> List PV -> List PV -> Option Res
 | 0, _, _, _ => none
 | n + 1, v0, v1, v2 => Zk f (Xz f k0 n) k0 v0 v1 v2
theorem JmC (f : Nat) (k : Kont) (n : Nat) (v0 : Int) (v1 v2 : List PV) : Jn tau 0 WV (fun s k => ev tau Jgd 0 0 Jah (Jb5 ) s k) (n + 1) (Jd WV X3 [.ptr 1440 [], .ptr 1441 [], .sc (.int .i64 v0)] [(1440, .box false 118 (PV.ar 118 v1)), (1441, .box false 118 (PV.ar 118 v2))]) (Jt tau 0 Xx k) = Zk f (fun v0 v1 v2 => Jn tau 0 WV (fun s k => ev tau Jgd 0 0 Jah (Jb5 ) s k) n (Jd WV X3 [.ptr 1440 [], .ptr 1441 [], .sc (.int .i64 v0)] [(1440, .box false 118 (PV.ar 118 v1)), (1441, .box false 118 (PV.ar 118 v2))]) (Jt tau 0 Xx k)) (fun x0 x1 => k (Ex.exit 2) (Jd Xx X3 [.ptr 1440 [], .ptr 1441 []] [(1440, .box false 118 (PV.ar 118 x0)), (1441, .box false 118 (PV.ar 118 x1))])) v0 v1 v2 := by kernel_rfl
theorem Jgf (f : Nat) (k : Kont) : ∀ (n : Nat) (v0 : Int) (v1 v2 : List PV), Jn tau 0 WV (fun s k => ev tau Jgd 0 0 Jah (Jb5 ) s k) n (Jd WV X3 [.ptr 1440 [], .ptr 1441 [], .sc (.int .i64 v0)] [(1440, .box false 118 (PV.ar 118 v1)), (1441, .box false 118 (PV.ar 118 v2))]) (Jt tau 0 Xx k) = Xz f (fun x0 x1 => k (Ex.exit 2) (Jd Xx X3 [.ptr 1440 [], .ptr 1441 []] [(1440, .box false 118 (PV.ar 118 x0)), (1441, .box false 118 (PV.ar 118 x1))])) n v0 v1 v2 | 0, _, _, _ => rfl | n + 1, v0, v1, v2 => (JmC f k n v0 v1 v2).trans (congrArg (fun r => Zk f r (fun x0 x1 => k (Ex.exit 2) (Jd Xx X3 [.ptr 1440 [], .ptr 1441 []] [(1440, .box false 118 (PV.ar 118 x0)), (1441, .box false 118 (PV.ar 118 x1))])) v0 v1 v2) (by funext v0 v1 v2; exact Jgf f k n v0 v1 v2))
def Jaj (f : Nat) : List PV -> List (Nat × Ent) -> Kont -> Option Res
 | [.ptr 1440 [], .ptr 1441 [],
 PV.sc
  (Value.int IntKind.i64
   v0)], [(1440, .box false 118 (PV.ar 118 v1)),
 (1441,
  Ent.box false 118
   (PV.ar 118
    v2))], k => Xz f (fun x0 x1 => k (Ex.exit
 2) (Jd Xx X3 [.ptr 1440 [], .ptr 1441 []] [(1440, .box false 118 (PV.ar 118 x0)), (1441, .box false 118 (PV.ar 118 x1))])) f v0 v1 v2
 | _, _, _ => none
theorem Jpo (f : Nat) : Je Jah Jb5 = [] := by kernel_rfl
theorem JuF (f : Nat) : (Item.l Jah WV X3 (Jaj f)).Ok tau Try.prog 0 := JI Jq JeC Jr (x := Jb5) (nm2 := Xx) (Js _ _ (by rw [Jpo f]; intro q hq; cases hq)) fun vs hp k res hr => by
 unfold Jaj at hr
 split at hr
 · exact ⟨f, 0, (Jgf f _ f _ _ _ ).trans hr⟩
 · cases hr
def Jyv (f : Nat) (b_z b_f : Bool) (b : List PV) (k : Res -> Option Res) : Option Res := Xy f (fun x0_0 x1_0 => Xz f (fun x0_1 x1_1 => k (Res.mk (.ar 118 x1_1) [] [])) f (16) x0_0 x1_0) f b_z b_f b (0) ([.sc (.int .u32 0), .sc (.int .u32 0), .sc (.int .u32 0), .sc (.int .u32 0), .sc (.int .u32 0), .sc (.int .u32 0), .sc (.int .u32 0), .sc (.int .u32 0), .sc (.int .u32 0), .sc (.int .u32 0), .sc (.int .u32 0), .sc (.int .u32 0), .sc (.int .u32 0), .sc (.int .u32 0), .sc (.int .u32 0), .sc (.int .u32 0), .sc (.int .u32 0), .sc (.int .u32 0), .sc (.int .u32 0), .sc (.int .u32 0), .sc (.int .u32 0), .sc (.int .u32 0), .sc (.int .u32 0), .sc (.int .u32 0), .sc (.int .u32 0), .sc (.int .u32 0), .sc (.int .u32 0), .sc (.int .u32 0), .sc (.int .u32 0), .sc (.int .u32 0), .sc (.int .u32 0), .sc (.int .u32 0), .sc (.int .u32 0), .sc (.int .u32 0), .sc (.int .u32 0), .sc (.int .u32 0), .sc (.int .u32 0), .sc (.int .u32 0), .sc (.int .u32 0), .sc (.int .u32 0), .sc (.int .u32 0), .sc (.int .u32 0), .sc (.int .u32 0), .sc (.int .u32 0), .sc (.int .u32 0), .sc (.int .u32 0), .sc (.int .u32 0), .sc (.int .u32 0), .sc (.int .u32 0), .sc (.int .u32 0), .sc (.int .u32 0), .sc (.int .u32 0), .sc (.int .u32 0), .sc (.int .u32 0), .sc (.int .u32 0), .sc (.int .u32 0), .sc (.int .u32 0), .sc (.int .u32 0), .sc (.int .u32 0), .sc (.int .u32 0), .sc (.int .u32 0), .sc (.int .u32 0), .sc (.int .u32 0), .sc (.int .u32 0)]) ([.sc (.int .u32 0), .sc (.int .u32 0), .sc (.int .u32 0), .sc (.int .u32 0), .sc (.int .u32 0), .sc (.int .u32 0), .sc (.int .u32 0), .sc (.int .u32 0), .sc (.int .u32 0), .sc (.int .u32 0), .sc (.int .u32 0), .sc (.int .u32 0), .sc (.int .u32 0), .sc (.int .u32 0), .sc (.int .u32 0), .sc (.int .u32 0), .sc (.int .u32 0), .sc (.int .u32 0), .sc (.int .u32 0), .sc (.int .u32 0), .sc (.int .u32 0), .sc (.int .u32 0), .sc (.int .u32 0), .sc (.int .u32 0), .sc (.int .u32 0), .sc (.int .u32 0), .sc (.int .u32 0), .sc (.int .u32 0), .sc (.int .u32 0), .sc (.int .u32 0), .sc (.int .u32 0), .sc (.int .u32 0), .sc (.int .u32 0), .sc (.int .u32 0), .sc (.int .u32 0), .sc (.int .u32 0), .sc (.int .u32 0), .sc (.int .u32 0), .sc (.int .u32 0), .sc (.int .u32 0), .sc (.int .u32 0), .sc (.int .u32 0), .sc (.int .u32 0), .sc (.int .u32 0), .sc (.int .u32 0), .sc (.int .u32 0), .sc (.int .u32 0), .sc (.int .u32 0), .sc (.int .u32 0), .sc (.int .u32 0), .sc (.int .u32 0), .sc (.int .u32 0), .sc (.int .u32 0), .sc (.int .u32 0), .sc (.int .u32 0), .sc (.int .u32 0), .sc (.int .u32 0), .sc (.int .u32 0), .sc (.int .u32 0), .sc (.int .u32 0), .sc (.int .u32 0), .sc (.int .u32 0), .sc (.int .u32 0), .sc (.int .u32 0)])
theorem JEd (f : Nat) (b_z b_f : Bool) (b : List PV) (k : Res -> Option Res) : JN tau Jgd Try.f122 (Try.f122.body.get!) (JmA (Jai f) (Jaj f)) [] 0 [.ro 5 b_z b_f b] [] k = Jyv f b_z b_f b k := by kernel_rfl
theorem Jyw (f : Nat) : Je (Try.f122.body.get!) (JmA (Jai f) (Jaj f)) = [.l Jag WU X3 (Jai f), .l Jah WV X3 (Jaj f)] := by kernel_rfl
theorem Jyx (f : Nat) : ∀ q ∈ Je (Try.f122.body.get!) (JmA (Jai f) (Jaj f)), q.Ok tau Try.prog 0 := by
 rw [Jyw f]; simp only [List.forall_mem_cons, List.not_mem_nil, false_implies, implies_true, and_true]; exact ⟨JuE f, JuF f⟩
theorem Jsd : Try.prog.funcs[122]? = some Try.f122 := by kernel_rfl
theorem Jse : Try.f122.body = some (Try.f122.body.get!) := by kernel_rfl
theorem Jyy : Enters Try.prog 122 := enters_of Jsd (by kernel_rfl) Jse
-- FN sha.spread
abbrev ww (x : Int) : Int := IntKind.u32.wrap x
def Jyz (a b c d : Int) : Int := JH .or .u32 (JH .or .u32 (JH .or .u32 (WN .u32 (ww a) 24) (WN .u32 (ww b) 16)) (WN .u32 (ww c) 8)) (ww d)
def sg0 (x : Int) : Int := JH .xor .u32 (JH .xor .u32 (rr x 7) (rr x 18)) (JD .u32 x 3)
def sg1 (x : Int) : Int := JH .xor .u32 (JH .xor .u32 (rr x 17) (rr x 19)) (JD .u32 x 10)
def Jpp (w16 w15 w7 w2 : Int) : Int := ww (ww (ww (w16 + sg0 w15) + w7) + sg1 w2)
def JcQ (bs : List Int) (j : Nat) : Int := Jyz (bs.getD (4 * j) 0) (bs.getD (4 * j + 1) 0) (bs.getD (4 * j + 2) 0) (bs.getD (4 * j + 3) 0)
def Qs (bs : List Int) : Nat -> List Int
 | 0 => (List.range 16).map (JcQ bs)
 | i + 1 => Qs bs i ++ [Jpp ((Qs bs i).getD i 0) ((Qs bs i).getD (i + 1) 0) ((Qs bs i).getD (i + 9) 0) ((Qs bs i).getD (i + 14) 0)]
def Qh (bs : List Int) : List Int := Qs bs 48
theorem JX (bs : List Int) : ∀ i, (Qs bs i).length = 16 + i
 | 0 => by simp [Qs]
 | i + 1 => by simp [Qs, JX bs i]; omega
def Jb6 (bs : List Int) (i : Nat) : List Int := (List.range i).map (JcQ bs) ++ List.replicate (64 - i) 0
def JaY (bs : List Int) (i : Nat) : List Int := Qs bs i ++ List.replicate (48 - i) 0
theorem JeD (bs : List Int) (i : Nat) (h : i <= 48) : (JaY bs i).length = 64 := by simp [JaY, JX]; omega
theorem Jgg (L : List Int) (m : Nat) (x : Int) : (L ++ List.replicate (m + 1) 0).set L.length x = (L ++ [x]) ++ List.replicate m 0 := by
 simp [List.replicate_succ]
theorem Jlq (bs : List Int) (i : Nat) (h : i < 64) : (Jb6 bs i).set i (JcQ bs i) = Jb6 bs (i + 1) := by
 have := Jgg ((List.range i).map (JcQ bs)) (63 - i) (JcQ bs i)
 simp only [List.length_map, List.length_range] at this
 simp only [Jb6, show 64 - i = 63 - i + 1 from by omega, this, show 64 - (i + 1) = 63 - i from by omega, List.range_succ, List.map_append, List.map_cons, List.map_nil]
theorem Z9 (bs : List Int) (i j : Nat) (h : j < 16 + i) : (JaY bs i).getD j 0 = (Qs bs i).getD j 0 := by
 simp only [JaY, List.getD_eq_getElem?_getD]
 rw [List.getElem?_append_left (by rw [JX]; exact h)]
theorem Jlr (bs : List Int) (i : Nat) (h : i < 48) (x : Int) : (JaY bs i).set (i + 16) x = (Qs bs i ++ [x]) ++ List.replicate (48 - (i + 1)) 0 := by
 have := Jgg (Qs bs i) (47 - i) x
 rw [JX] at this
 rw [JaY, show 48 - i = 47 - i + 1 from by omega, show i + 16 = 16 + i from by omega, this, show 48 - (i + 1) = 47 - i from by omega]
theorem JmD (bs : List Int) (hb : bs.length = 64) (f : Nat) (k0 : List PV -> List PV -> Option Res) (nl fl : Bool) (w : List PV) : ∀ (d i n : Nat), i + d = 16 -> d < n ->
  Xy f k0 n nl fl (pu .u8 bs) (i : Int) w (pu .u32 (Jb6 bs i)) = k0 w (pu .u32 (Jb6 bs 16))
 | 0, i, n + 1, h, hn => by
   obtain rfl : i = 16 := by omega
   simp only [Xy, Zj]
   exact Jv (by decide)
 | d + 1, i, n + 1, h, hn => by
   have h4 : IntKind.i64.wrap (4 * (i : Int)) = ((4 * i : Nat) : Int) := by rw [wrap_i64 (by omega) (by omega)]; omega
   have h41 : IntKind.i64.wrap (((4 * i : Nat) : Int) + 1) = ((4 * i + 1 : Nat) : Int) := by rw [wrap_i64 (by omega) (by omega)]; omega
   have h42 : IntKind.i64.wrap (((4 * i : Nat) : Int) + 2) = ((4 * i + 2 : Nat) : Int) := by rw [wrap_i64 (by omega) (by omega)]; omega
   have h43 : IntKind.i64.wrap (((4 * i : Nat) : Int) + 3) = ((4 * i + 3 : Nat) : Int) := by rw [wrap_i64 (by omega) (by omega)]; omega
   have h5 : IntKind.i64.wrap ((i : Int) + 1) = ((i + 1 : Nat) : Int) := by rw [wrap_i64 (by omega) (by omega)]; omega
   simp only [Xy, Zj, h4, h41, h42, h43, h5, Int.toNat_natCast, zi]
   rw [JW (by omega), JW (by omega), JW (by omega), JW (by omega), Qr (by omega), Qr (by omega), Qr (by omega), Qr (by omega), JJ, Ws]
   refine (Jb (by simp; omega)).trans ?_
   refine (Jb (by simp; omega)).trans ?_
   refine (Jb (by simp; omega)).trans ?_
   refine (Jb (by simp; omega)).trans ?_
   refine (Jb (by simp; omega)).trans ?_
   refine (Jb (by simp; omega)).trans ?_
   have := JmD bs hb f k0 nl fl w d (i + 1) n (by omega) (by omega)
   rw [← Jlq bs i (by omega)] at this
   exact this
theorem JmE (bs : List Int) (f : Nat) (k0 : List PV -> List PV -> Option Res) (w : List PV) : ∀ (d i n : Nat), i + d = 48 -> d < n ->
  Xz f k0 n ((i + 16 : Nat) : Int) w (pu .u32 (JaY bs i)) = k0 w (pu .u32 (Qs bs 48))
 | 0, i, n + 1, h, hn => by
   obtain rfl : i = 48 := by omega
   simp only [Xz, Zk]
   exact (Jv (by decide)).trans (by simp [JaY])
 | d + 1, i, n + 1, h, hn => by
   have h15 : IntKind.i64.wrap (((i + 16 : Nat) : Int) - 15) = ((i + 1 : Nat) : Int) := by rw [wrap_i64 (by omega) (by omega)]; omega
   have h2 : IntKind.i64.wrap (((i + 16 : Nat) : Int) - 2) = ((i + 14 : Nat) : Int) := by rw [wrap_i64 (by omega) (by omega)]; omega
   have h16 : IntKind.i64.wrap (((i + 16 : Nat) : Int) - 16) = ((i : Nat) : Int) := by rw [wrap_i64 (by omega) (by omega)]; omega
   have h7 : IntKind.i64.wrap (((i + 16 : Nat) : Int) - 7) = ((i + 9 : Nat) : Int) := by rw [wrap_i64 (by omega) (by omega)]; omega
   have h1 : IntKind.i64.wrap (((i + 16 : Nat) : Int) + 1) = ((i + 1 + 16 : Nat) : Int) := by rw [wrap_i64 (by omega) (by omega)]; omega
   have hl := JeD bs i (by omega)
   simp only [Xz, Zk, h15, h2, h16, h7, h1, Int.toNat_natCast, zi, WR]
   rw [JW (by omega), JW (by omega), JW (by omega), JW (by omega), Qr (by omega), Qr (by omega), Qr (by omega), Qr (by omega), Ws]
   refine (Jb (by simp; omega)).trans ?_
   refine (Jb (by simp; omega)).trans ?_
   refine (Jb (by simp)).trans ?_
   refine (Jb (by simp; omega)).trans ?_
   refine (Jb (by simp)).trans ?_
   refine (Jb (by simp; omega)).trans ?_
   refine (Jb (by simp)).trans ?_
   refine (Jb (by simp; omega)).trans ?_
   refine (Jb (by simp)).trans ?_
   refine (Jb (by simp; omega)).trans ?_
   have := JmE bs f k0 w d (i + 1) n (by omega) (by omega)
   rw [Z9 bs i i (by omega), Z9 bs i (i + 1) (by omega), Z9 bs i (i + 9) (by omega), Z9 bs i (i + 14) (by omega), Jlr bs i (by omega)]
   exact this
theorem Jpq (bs : List Int) (hb : bs.length = 64) (nl fl : Bool) (k : Res -> Option Res) : Jyv 100 nl fl (pu .u8 bs) k = k ⟨.ar 118 (pu .u32 (Qh bs)), [], []⟩ := by
 have h0 : ∀ k0 w, Xy 100 k0 100 nl fl (pu .u8 bs) 0 w (pu .u32 (List.replicate 64 0)) = k0 w (pu .u32 (Jb6 bs 16)) := fun k0 w => JmD bs hb 100 k0 nl fl w 16 0 100 (by omega) (by omega)
 have h1 : ∀ k0 w, Xz 100 k0 100 16 w (pu .u32 (Jb6 bs 16)) = k0 w (pu .u32 (Qs bs 48)) := fun k0 w => JmE bs 100 k0 w 48 0 100 (by omega) (by omega)
 exact (h0 _ _).trans (h1 _ _)
def JeE : List PV -> List Ent -> (Res -> Option Res) -> Option Res
 | [.ro 5 nl fl b], [], k => bif Jh .u8 b && decide (b.length = 64) then k ⟨.ar 118 (pu .u32 (Qh (Ji b))), [], []⟩ else none
 | _, _, _ => none
def Jsf : Sig := { own := [], run := JeE }
theorem JuG : Jf tau Try.prog 122 Jsf := JP Jq JeC Jr Jsd Jse _ [] 0 [] JeE (Jyx 100) fun xs es k res hr => by
 unfold JeE at hr
 split at hr
 · obtain ⟨hc, hr⟩ := JG hr
   simp only [Bool.and_eq_true, decide_eq_true_eq] at hc
   refine ⟨rfl, 0, (JEd 100 _ _ _ _).trans ?_⟩
   rw [Qc hc.1, Jpq _ (by simpa using hc.2)]
   exact hr
 · cases hr
def QB (g : Nat -> Int) (t : List Int) (i : Nat) : List Int := (List.range i).map g ++ t.drop i
theorem QH (g : Nat -> Int) (t : List Int) : QB g t 0 = t := by simp [QB]
theorem Q2 (g : Nat -> Int) (t : List Int) : QB g t t.length = (List.range t.length).map g := by simp [QB]
theorem Yn (g : Nat -> Int) (t : List Int) (i : Nat) (h : i <= t.length) : (QB g t i).length = t.length := by simp [QB]; omega
theorem Qw (g : Nat -> Int) (t : List Int) (i : Nat) (h : i < t.length) : (QB g t i).set i (g i) = QB g t (i + 1) := by
 rw [QB, List.set_append_right _ _ (by simp), List.drop_eq_getElem_cons h, List.length_map, List.length_range, Nat.sub_self, List.set_cons_zero]
 simp [QB, List.range_succ]
theorem Jak (g : Nat -> Int) (t : List Int) (i : Nat) (h : i < t.length) : (QB g t i).getD i 0 = t.getD i 0 := by
 simp only [QB, List.getD_eq_getElem?_getD]
 rw [List.getElem?_append_right (by simp)]
 simp
def kks : List Int := [1116352408, 1899447441, 3049323471, 3921009573, 961987163, 1508970993, 2453635748, 2870763221, 3624381080, 310598401, 607225278, 1426881987, 1925078388, 2162078206, 2614888103, 3248222580, 3835390401, 4022224774, 264347078, 604807628, 770255983, 1249150122, 1555081692, 1996064986, 2554220882, 2821834349, 2952996808, 3210313671, 3336571891, 3584528711, 113926993, 338241895, 666307205, 773529912, 1294757372, 1396182291, 1695183700, 1986661051, 2177026350, 2456956037, 2730485921, 2820302411, 3259730800, 3345764771, 3516065817, 3600352804, 4094571909, 275423344, 430227734, 506948616, 659060556, 883997877, 958139571, 1322822218, 1537002063, 1747873779, 1955562222, 2024104815, 2227730452, 2361852424, 2428436474, 2756734187, 3204031479, 3329325298]
def iv : List Int := [1779033703, 3144134277, 1013904242, 2773480762, 1359893119, 2600822924, 528734635, 1541459225]
def xW (k w h e f g : Int) : Int := ww (ww (ww (ww (h + JH .xor .u32 (JH .xor .u32 (rr e 6) (rr e 11)) (rr e 25)) + JH .xor .u32 (JH .and .u32 e f) (JH .and .u32 (JH .xor .u32 (Int.ofNat (2 ^ IntKind.u32.bits - Nat.succ 0)) e) g)) + k) + w)
def yW (a b c : Int) : Int := ww (JH .xor .u32 (JH .xor .u32 (rr a 2) (rr a 13)) (rr a 22) + JH .xor .u32 (JH .xor .u32 (JH .and .u32 a b) (JH .and .u32 a c)) (JH .and .u32 b c))
def rnd (k w : Int) (t : List Int) : List Int :=
 [ww (xW k w (t.getD 7 0) (t.getD 4 0) (t.getD 5 0) (t.getD 6 0) + yW (t.getD 0 0) (t.getD 1 0) (t.getD 2 0)), t.getD 0 0, t.getD 1 0, t.getD 2 0,
  ww (t.getD 3 0 + xW k w (t.getD 7 0) (t.getD 4 0) (t.getD 5 0) (t.getD 6 0)), t.getD 4 0, t.getD 5 0, t.getD 6 0]
def Zl (W s : List Int) : Nat -> List Int
 | 0 => s
 | i + 1 => rnd (kks.getD i 0) (W.getD i 0) (Zl W s i)
theorem XA (W s : List Int) (h : s.length = 8) : ∀ i, (Zl W s i).length = 8
 | 0 => h
 | i + 1 => rfl
def Jgh (s bs : List Int) : List Int := (List.range 8).map fun i => ww ((Zl (Qh bs) s 64).getD i 0 + s.getD i 0)
theorem Jgi (s bs : List Int) : (Jgh s bs).length = 8 := by simp [Jgh]
def Wg (s b : List Int) : Nat -> List Int
 | 0 => s
 | n + 1 => Jgh (Wg s b n) ((b.drop (64 * n)).take 64)
theorem WW (s b : List Int) (h : s.length = 8) : ∀ n, (Wg s b n).length = 8
 | 0 => h
 | n + 1 => Jgi _ _
def zs (m : Nat) : Nat := (120 - m % 64) % 64
def Jpr (n : Nat) : List Int := (List.range 8).map fun (i : Nat) => IntKind.u8.wrap (JD .u64 (IntKind.u64.wrap (IntKind.u64.wrap (n : Int) * 8)) (56 - 8 * (i : Int)))
def QC (bs : List Int) : List Int := (bs ++ [128] ++ List.replicate (zs (bs.length + 1)) 0) ++ Jpr bs.length
theorem JaZ (bs : List Int) : (QC bs).length = 64 * ((QC bs).length / 64) := by
 have : (QC bs).length = bs.length + 1 + zs (bs.length + 1) + 8 := by simp [QC, Jpr]; omega
 rw [this]; unfold zs; omega
def YX (s : List Int) (i : Nat) : Int := IntKind.u8.wrap (JD .u32 (s.getD (i / 4) 0) (24 - 8 * ((i % 4 : Nat) : Int)))
def Jls (s : List Int) : List Int := (List.range 32).map (YX s)
def JjK (bs : List Int) : List Int := Jls (Wg iv (QC bs) ((QC bs).length / 64))
def JE (bs : List Int) : List Int := bif Nat.ble bs.length bs.length then JjK bs else []
theorem Jbp (bs : List Int) : JE bs = JjK bs := by
 have : Nat.ble bs.length bs.length = true := by rw [Nat.ble_eq]; exact Nat.le_refl _
 rw [JE, this]; rfl
theorem J8 (bs : List Int) : (JE bs).length = 32 := by simp [Jbp, JjK, Jls]
theorem Jb7 (n : Nat) : (zi n).tmod 64 = ((n % 64 : Nat) : Int) := by
 show (n : Int).tmod 64 = _
 rw [Int.tmod_eq_emod_of_nonneg (by omega)]; omega
-- FN ref8.Hash
def Jal : Nat -> RS -> RS
 | 0, s => s
 | n + 1, s => Jal n (J1 1 s)
def Vl : Nat -> RS -> List Int
 | 0, _ => []
 | n + 1, s => IntKind.u8.wrap (QK 1 s) :: Vl n (J1 1 s)
def Jb8 : Nat -> RT -> RT
 | 0, t => t
 | n + 1, t => Jb8 n (QG 1 t)
def hashS : RS -> RS := hid (Jal 32)
def hashV : RS -> List Int := hid (Vl 32)
def hashT : RT -> RT := hid (Jb8 32)
def hashVT : RT -> List Int := hid fun t => Vl 32 t.view
theorem hashS_eq (s : RS) : hashS s = Jal 32 s := by rw [hashS, hid_eq]
theorem hashV_eq (s : RS) : hashV s = Vl 32 s := by rw [hashV, hid_eq]
theorem hashT_eq (t : RT) : hashT t = Jb8 32 t := by rw [hashT, hid_eq]
theorem hashVT_eq (t : RT) : hashVT t = Vl 32 t.view := by rw [hashVT, hid_eq]
theorem Ja0 : ∀ (n : Nat) (s : RS), (Vl n s).length = n
 | 0, _ => rfl
 | n + 1, s => by simp [Vl, Ja0 n]
@[simp] theorem hashV_length (s : RS) : (hashV s).length = 32 := by rw [hashV_eq]; exact Ja0 32 s
theorem Jds : ∀ (n : Nat) (t : RT), (Jb8 n t).view = Jal n t.view
 | 0, _ => rfl
 | n + 1, t => by simp only [Jb8, Jal, Jds n, X2]
@[simp] theorem hashT_view (t : RT) : (hashT t).view = hashS t.view := by rw [hashT_eq, hashS_eq, Jds]
@[simp] theorem hashVT_val (t : RT) : hashVT t = hashV t.view := by rw [hashVT_eq, hashV_eq]
theorem JjL : ∀ (n : Nat) {t : RT}, okT t = true -> okT (Jb8 n t) = true
 | 0, _, h => h
 | n + 1, t, h => JjL n (Zf h 1)
@[simp] theorem JmF {t : RT} (h : okT t = true) : okT (hashT t) = true := by rw [hashT_eq]; exact JjL 32 h
theorem JeF : ∀ (n : Nat) {s : RS}, byB s.b = true -> byB (Jal n s).b = true
 | 0, _, h => h
 | n + 1, s, h => JeF n (X1 h 1)
theorem Jsg (f : Nat) (k0 : Bool -> Bool -> List PV -> Int -> Int -> List PV -> List PV -> Option Res) (z fl : Bool) (h0 : List PV) : ∀ (d i n : Nat) (t : RT) (L : List Int), i + d = 32 -> d < n -> okT t = true -> L.length = 32 ->
  VD f k0 n (i : Int) z fl t.B t.P t.e h0 (pu .u8 L) = k0 z fl (Jb8 d t).B (Jb8 d t).P (Jb8 d t).e h0 (pu .u8 (L.take i ++ Vl d t.view))
 | 0, i, n + 1, t, L, h, hn, hk, hL => by
   obtain rfl : i = 32 := by omega
   simp only [VD, Gp, Jb8, Vl, List.append_nil]
   rw [List.take_of_length_le (by omega)]
   exact Jv (by decide)
 | d + 1, i, n + 1, t, L, h, hn, hk, hL => by
   have g1 : ((i : Int)).toNat = i := by omega
   have w1 : IntKind.i64.wrap ((i : Int) + 1) = ((i + 1 : Nat) : Int) := by rw [wrap_i64 (by omega) (by omega)]; omega
   simp only [VD, Gp, g1, w1, Ws]
   refine (Jb (by simp; omega)).trans ((Jb hk).trans ((Jb (by simp; omega)).trans ?_))
   have := Jsg f k0 z fl h0 d (i + 1) n (QG 1 t) (L.set i (IntKind.u8.wrap (Jy 1 t))) (by omega) (by omega) (Zf hk 1) (by simpa using hL)
   rw [WF]
   refine this.trans ?_
   have hset : (L.set i (IntKind.u8.wrap (Jy 1 t))).take (i + 1) = L.take i ++ [IntKind.u8.wrap (Jy 1 t)] := by
    rw [List.take_add_one, List.take_set_of_le (Nat.le_refl i), List.getElem?_set_self (by omega)]; rfl
   rw [hset, X2, Jbo]
   simp only [Jb8, Vl, List.append_assoc, List.cons_append, List.nil_append]
def Jh5 : List PV -> List Ent -> (Res -> Option Res) -> Option Res
 | [.ptr 0 []], [.box false 138 (.st 138 [.ro 5 z f B, .sc (.int .i64 P), .sc (.int .i64 e)])], k =>
  bif okT ⟨B, P, e⟩ then k ⟨.ar 37 (pu .u8 (hashVT ⟨B, P, e⟩)), [rfP z f (hashT ⟨B, P, e⟩)], []⟩ else none
 | _, _, _ => none
def JyA : Sig := { own := [], run := Jh5 }
theorem JyB : Jf tau Try.prog 87 JyA := Jf.mk' fun xs es k res hl hr => by
 change Jh5 xs es k = some res at hr
 unfold Jh5 at hr
 split at hr
 · rename_i z f B P e
   obtain ⟨hc, hr⟩ := JG hr
   have hg : g87 40 z f B P e k = some res := by
    have h := Jsg 40 (fun x0_0 x1_0 x2_0 x3_0 x4_0 x5_0 x6_0 => k (Res.mk (.ar 37 x6_0) [.box false 138 (.st 138 [.ro 5 x0_0 x1_0 x2_0, .sc (.int .i64 x3_0), .sc (.int .i64 x4_0)])] [])) z f (pu .u8 (List.replicate 32 0)) 32 0 40 ⟨B, P, e⟩ (List.replicate 32 0) (by omega) (by omega) hc (by simp)
    rw [List.take_zero, List.nil_append] at h
    rw [hashVT_eq, hashT_eq] at hr
    exact Eq.trans h hr
   exact Qj Jq Jmv Jr Jye Jyf (Jph (Jb3 40)) [.ro] 1 0 (JD4 40) hl rfl ((e87 40 z f B P e k).trans hg)
 · cases hr
-- FN wire.read
def fS : Nat -> RS -> RS
 | 0, s => s
 | 1, s => Jc 1 s
 | n + 2, s => Jc 8 (fS (n + 1) s)
def Zm (c : Int) (s : RS) : RS := ⟨s.b, bif s.e == 0 then c else s.e⟩
def txR : Nat -> RS -> RS
 | 0, s => s
 | n + 1, s => txR n (J9 s)
def JuH (s : RS) : Int := Jw 1 (fS 13 s)
def JyC (s : RS) : Nat := bif decide (JuH s > 4) then 0 else (JuH s).toNat
def JyD (s : RS) : RS := bif decide (JuH s > 4) then Zm 4 (Jc 1 (fS 13 s)) else Jc 1 (fS 13 s)
def JuI : RS -> List Int := hid fun s => hashV (txR (JyC s) (JyD s))
theorem Jps (s : RS) : JuI s = hashV (txR (JyC s) (JyD s)) := by rw [JuI, hid_eq]
@[simp] theorem Jsh (s : RS) : (JuI s).length = 32 := by rw [Jps]; exact hashV_length _
theorem Qa {s : RS} (h : byB s.b = true) (n : Nat) : byB (Jc n s).b = true := by rw [We]; exact X1 h n
theorem JjM {s : RS} (h : byB s.b = true) : byB (J9 s).b = true := by rw [Gj]; exact X1 (X1 h 2) _
theorem Zn : ∀ l : List PV, (Jp l).length = l.length
 | [] => rfl
 | p :: ps => by simp [Jp, Zn ps]
theorem Jdt {s : RS} (h : byB s.b = true) : (JS s).size <= 65535 := by
 rw [Jbn]
 show (Jp _).length <= _
 rw [Zn]
 have h1 := Wt (QK 2 s).toNat (J1 2 s)
 have h2 := Xl h (n := 2) (Nat.le_refl 2)
 omega
theorem XB (t : ByteArray) : (Jj t).length = t.size := by simp only [Jj, List.length_map, Array.length_toList]; rfl
def F78 : Fns := F0
theorem JuJ : Ju tau Try.prog F78 := JB
def Jpt : An := (.seq .leaf (.seq (.seq .leaf (.cond (.seq .leaf .leaf) .leaf)) (.seq .leaf .leaf)))
def g78 (f : Nat) (y0 y1 : Bool) (r_b : List PV) (r_e : Int) (k : Res -> Option Res) : Option Res := bif r_e == 0 then bif decide (zi r_b.length > 0) then k (Res.mk (.sc (.int .i64 9)) [.box false 186 (PV.st 186 [.ro 5 y0 y1 r_b, .sc (.int .i64 r_e)])] []) else k (Res.mk (.sc (.int .i64 r_e)) [.box false 186 (PV.st 186 [.ro 5 y0 y1 r_b, .sc (.int .i64 r_e)])] []) else k (Res.mk (.sc (.int .i64 r_e)) [.box false 186 (PV.st 186 [.ro 5 y0 y1 r_b, .sc (.int .i64 r_e)])] [])
theorem e78 (f : Nat) (y0 y1 : Bool) (r_b : List PV) (r_e : Int) (k : Res -> Option Res) : JN tau F78 Try.f78 (Try.f78.body.get!) Jpt [.ro] 0 [.ptr 0 []] [.box false 186 (.st 186 [.ro 5 y0 y1 r_b, .sc (.int .i64 r_e)])] k = g78 f y0 y1 r_b r_e k := by kernel_rfl
theorem JEe (f : Nat) : Je (Try.f78.body.get!) Jpt = [] := by kernel_rfl
theorem JEf (f : Nat) : ∀ q ∈ Je (Try.f78.body.get!) Jpt, q.Ok tau Try.prog 1 := by
 rw [JEe f]; intro q hq; cases hq
theorem JyE : Try.prog.funcs[78]? = some Try.f78 := by kernel_rfl
theorem JyF : Try.f78.body = some (Try.f78.body.get!) := by kernel_rfl
theorem JyG : Enters Try.prog 78 := enters_of JyE (by kernel_rfl) JyF
def JmG : List PV -> List Ent -> (Res -> Option Res) -> Option Res
 | [.ptr 0 []], [.box false 186 (.st 186 [.ro 5 y0 y1 r_b, .sc (.int .i64 r_e)])], k => g78 0 y0 y1 r_b r_e k
 | _, _, _ => none
def s78 : Sig := { own := [], run := JmG }
theorem JyH : Jf tau Try.prog 78 s78 := JP Jq JuJ Jr JyE JyF Jpt [.ro] 1 [] JmG (JEf 0) fun xs es k res hr => by
 unfold JmG at hr
 split at hr
 · exact ⟨rfl, 0, (e78 0 _ _ _ _  _).trans hr⟩
 · cases hr





-- FN wire.check | wire.key
def QR (x m : Int) : Bool := decide (x >= 0) && decide (x <= m)
def JEg (fr to wh wn cd cu ve co ad au su er : Int) : Bool := QR fr 2 && (QR to 2 && (!(fr == to) && (QR wh 2 && (QR wn 99 && (QR cd 2 && (QR cu 7 && (QR ad 2 && (QR au 7 && (QR ve 1073741824 && (QR co 1073741824 && (QR su 1073741824 && QR er 255)))))))))))
def JEh (kd fr to wh wn cd cu ve co ad au su er : Int) : Int := bif QR (IntKind.i64.wrap (kd - 1)) 4 then (bif JEg fr to wh wn cd cu ve co ad au su er then 0 else 1) else 3
structure C13 where
 (kd fr to wh wn cd cu ve co ad au su er : Int)
def chk : C13 -> Int := hid fun c => JEh c.kd c.fr c.to c.wh c.wn c.cd c.cu c.ve c.co c.ad c.au c.su c.er
def Xm (l : List PV) (d : Int) : PV := bif QR d 2 then l.getD d.toNat .top else .ro 5 true true []
structure K3 where
 (l : List PV) (d : Int)
def QS : K3 -> List PV := hid fun c => (Xm c.l c.d).els
def JuK : K3 -> Bool := hid fun c => (Xm c.l c.d).nl
def JuL : K3 -> Bool := hid fun c => (Xm c.l c.d).fl
theorem Jbq (c : K3) : QS c = (Xm c.l c.d).els := by rw [QS, hid_eq]
theorem Jpu (c : K3) : JuK c = (Xm c.l c.d).nl := by rw [JuK, hid_eq]
theorem Jpv (c : K3) : JuL c = (Xm c.l c.d).fl := by rw [JuL, hid_eq]
def JyI : Fns := F0
theorem Jpw : Ju tau Try.prog JyI := JB
def JjN : An := (.seq .leaf (.seq .leaf .leaf))
def JyJ (f : Nat) (k : Res -> Option Res) : Option Res := k (Res.mk (.ar 118 [.sc (.int .u32 1116352408), .sc (.int .u32 1899447441), .sc (.int .u32 3049323471), .sc (.int .u32 3921009573), .sc (.int .u32 961987163), .sc (.int .u32 1508970993), .sc (.int .u32 2453635748), .sc (.int .u32 2870763221), .sc (.int .u32 3624381080), .sc (.int .u32 310598401), .sc (.int .u32 607225278), .sc (.int .u32 1426881987), .sc (.int .u32 1925078388), .sc (.int .u32 2162078206), .sc (.int .u32 2614888103), .sc (.int .u32 3248222580), .sc (.int .u32 3835390401), .sc (.int .u32 4022224774), .sc (.int .u32 264347078), .sc (.int .u32 604807628), .sc (.int .u32 770255983), .sc (.int .u32 1249150122), .sc (.int .u32 1555081692), .sc (.int .u32 1996064986), .sc (.int .u32 2554220882), .sc (.int .u32 2821834349), .sc (.int .u32 2952996808), .sc (.int .u32 3210313671), .sc (.int .u32 3336571891), .sc (.int .u32 3584528711), .sc (.int .u32 113926993), .sc (.int .u32 338241895), .sc (.int .u32 666307205), .sc (.int .u32 773529912), .sc (.int .u32 1294757372), .sc (.int .u32 1396182291), .sc (.int .u32 1695183700), .sc (.int .u32 1986661051), .sc (.int .u32 2177026350), .sc (.int .u32 2456956037), .sc (.int .u32 2730485921), .sc (.int .u32 2820302411), .sc (.int .u32 3259730800), .sc (.int .u32 3345764771), .sc (.int .u32 3516065817), .sc (.int .u32 3600352804), .sc (.int .u32 4094571909), .sc (.int .u32 275423344), .sc (.int .u32 430227734), .sc (.int .u32 506948616), .sc (.int .u32 659060556), .sc (.int .u32 883997877), .sc (.int .u32 958139571), .sc (.int .u32 1322822218), .sc (.int .u32 1537002063), .sc (.int .u32 1747873779), .sc (.int .u32 1955562222), .sc (.int .u32 2024104815), .sc (.int .u32 2227730452), .sc (.int .u32 2361852424), .sc (.int .u32 2428436474), .sc (.int .u32 2756734187), .sc (.int .u32 3204031479), .sc (.int .u32 3329325298)]) [] [])
theorem JEi (f : Nat) (k : Res -> Option Res) : JN tau JyI Try.f123 (Try.f123.body.get!) JjN [.ro] 0 [] [] k = JyJ f k := by kernel_rfl
theorem JyK (f : Nat) : Je (Try.f123.body.get!) JjN = [] := by kernel_rfl
theorem JyL (f : Nat) : ∀ q ∈ Je (Try.f123.body.get!) JjN, q.Ok tau Try.prog 0 := by
 rw [JyK f]; intro q hq; cases hq
theorem Jsi : Try.prog.funcs[123]? = some Try.f123 := by kernel_rfl
theorem Jsj : Try.f123.body = some (Try.f123.body.get!) := by kernel_rfl
theorem JyM : Enters Try.prog 123 := enters_of Jsi (by kernel_rfl) Jsj
def Jh6 : List PV -> List Ent -> (Res -> Option Res) -> Option Res
 | [], [], k => JyJ 0  k
 | _, _, _ => none
def JyN : Sig := { own := [], run := Jh6 }
theorem JyO : Jf tau Try.prog 123 JyN := JP Jq Jpw Jr Jsi Jsj JjN [.ro] 0 [] Jh6 (JyL 0) fun xs es k res hr => by
 unfold Jh6 at hr
 split at hr
 · exact ⟨rfl, 0, (JEi 0  _).trans hr⟩
 · cases hr
def N71 : Nat := 113
def F71 : Fns := JC 123 JyN (JC 122 Jsf (JC 124 Jmy F0))
theorem Jh7 : Ju tau Try.prog F71 := ((JB.add Jmz Jsc).add JuG Jyy).add JyO JyM
def Jdu : Code := Qu (Try.f71.body.get!) [1, 1, 1, 0, 1, 0, 0]
def Yo : Nm := [(2, .any), (4, .any), (5, .any), (6, .any), (7, .any), (18, .any)]
def Zo : Nm := [(2, .any), (4, .any), (7, .any)]
def Jgj : An := (.seq .leaf (.seq (.cond .leaf .leaf) (.seq (.block none (.seq .leaf (.seq .leaf (.seq .leaf (.seq .leaf .leaf))))) .leaf)))
def Jdv : Code := Qu (Try.f71.body.get!) [1, 1, 1, 1, 0, 1, 0, 0]
def Yp : Nm := [(2, .any), (4, .any), (7, .any), (100, .any)]
def Zp : Nm := [(4, .any), (7, .any)]
def Jgk : An := (.seq .leaf (.seq (.cond .leaf .leaf) (.seq (.block none (.seq .leaf .leaf)) .leaf)))
def JuM (r0 : QJ) (r1 : QJ) : An := (.seq .leaf (.seq .leaf (.seq .leaf (.seq (.seq .leaf (.block none (.sum Yo N71 r0))) (.seq (.seq .leaf (.block none (.sum Yp N71 r1))) (.seq .leaf .leaf))))))
def Gq (f : Nat) (rc : Int -> List PV -> List PV -> List PV -> List PV -> List PV -> Option Res) (k0 : List PV -> List PV -> List PV -> Option Res) (v0 : Int) (v1 v2 v3 v4 v5 : List PV) : Option Res := bif decide (v0 < 64) then bif PV.isInt IntKind.u32 (Jm (PV.ar 113 v5) [4]) && true then bif PV.isInt IntKind.u32 (Jm (PV.ar 113 v5) [0]) && true then bif PV.isInt IntKind.u32 (Jm (PV.ar 113 v5) [7]) && true then bif PV.isInt IntKind.u32 (Jm (PV.ar 113 v5) [5]) && true then bif PV.isInt IntKind.u32 (Jm (PV.ar 113 v5) [6]) && true then bif decide (0 <= v0) && decide (v0 < zi 64) && true then bif PV.isInt IntKind.u32 (Jm (PV.ar 118 v4) [v0.toNat]) && true then bif decide (0 <= v0) && decide (v0 < zi 64) && true then bif PV.isInt IntKind.u32 (Jm (PV.ar 118 v3) [v0.toNat]) && true then bif PV.isInt IntKind.u32 (Jm (PV.ar 113 v5) [1]) && true then bif PV.isInt IntKind.u32 (Jm (PV.ar 113 v5) [2]) && true then bif PV.isInt IntKind.u32 (Jm (PV.ar 113 v5) [1]) && true then bif PV.isInt IntKind.u32 (Jm (PV.ar 113 v5) [2]) && true then bif PV.isInt IntKind.u32 (Jm (PV.ar 113 v5) [0]) && true then bif PV.isInt IntKind.u32 (Jm (PV.ar 113 v5) [1]) && true then bif PV.isInt IntKind.u32 (Jm (PV.ar 113 v5) [2]) && true then bif PV.isInt IntKind.u32 (Jm (PV.ar 113 v5) [3]) && true then bif PV.isInt IntKind.u32 (Jm (PV.ar 113 v5) [4]) && true then bif PV.isInt IntKind.u32 (Jm (PV.ar 113 v5) [5]) && true then bif PV.isInt IntKind.u32 (Jm (PV.ar 113 v5) [6]) && true then rc (IntKind.i64.wrap (v0 + 1)) v1 v2 v3 v4 ([.sc (.int .u32 (IntKind.u32.wrap (IntKind.u32.wrap (IntKind.u32.wrap (IntKind.u32.wrap (IntKind.u32.wrap ((Jm (PV.ar 113 v5) [7]).int + JH BinOp.xor IntKind.u32 (JH BinOp.xor IntKind.u32 (rr (Jm (PV.ar 113 v5) [4]).int 6) (rr (Jm (PV.ar 113 v5) [4]).int 11)) (rr (Jm (PV.ar 113 v5) [4]).int 25)) + JH BinOp.xor IntKind.u32 (JH BinOp.and IntKind.u32 (Jm (PV.ar 113 v5) [4]).int (Jm (PV.ar 113 v5) [5]).int) (JH BinOp.and IntKind.u32 (JH BinOp.xor IntKind.u32 (Int.ofNat (2 ^ IntKind.u32.bits - Nat.succ 0)) (Jm (PV.ar 113 v5) [4]).int) (Jm (PV.ar 113 v5) [6]).int)) + (Jm (PV.ar 118 v4) [v0.toNat]).int) + (Jm (PV.ar 118 v3) [v0.toNat]).int) + IntKind.u32.wrap (JH BinOp.xor IntKind.u32 (JH BinOp.xor IntKind.u32 (rr (Jm (PV.ar 113 v5) [0]).int 2) (rr (Jm (PV.ar 113 v5) [0]).int 13)) (rr (Jm (PV.ar 113 v5) [0]).int 22) + JH BinOp.xor IntKind.u32 (JH BinOp.xor IntKind.u32 (JH BinOp.and IntKind.u32 (Jm (PV.ar 113 v5) [0]).int (Jm (PV.ar 113 v5) [1]).int) (JH BinOp.and IntKind.u32 (Jm (PV.ar 113 v5) [0]).int (Jm (PV.ar 113 v5) [2]).int)) (JH BinOp.and IntKind.u32 (Jm (PV.ar 113 v5) [1]).int (Jm (PV.ar 113 v5) [2]).int))))), .sc (.int .u32 (Jm (PV.ar 113 v5) [0]).int), .sc (.int .u32 (Jm (PV.ar 113 v5) [1]).int), .sc (.int .u32 (Jm (PV.ar 113 v5) [2]).int), .sc (.int .u32 (IntKind.u32.wrap ((Jm (PV.ar 113 v5) [3]).int + IntKind.u32.wrap (IntKind.u32.wrap (IntKind.u32.wrap (IntKind.u32.wrap ((Jm (PV.ar 113 v5) [7]).int + JH BinOp.xor IntKind.u32 (JH BinOp.xor IntKind.u32 (rr (Jm (PV.ar 113 v5) [4]).int 6) (rr (Jm (PV.ar 113 v5) [4]).int 11)) (rr (Jm (PV.ar 113 v5) [4]).int 25)) + JH BinOp.xor IntKind.u32 (JH BinOp.and IntKind.u32 (Jm (PV.ar 113 v5) [4]).int (Jm (PV.ar 113 v5) [5]).int) (JH BinOp.and IntKind.u32 (JH BinOp.xor IntKind.u32 (Int.ofNat (2 ^ IntKind.u32.bits - Nat.succ 0)) (Jm (PV.ar 113 v5) [4]).int) (Jm (PV.ar 113 v5) [6]).int)) + (Jm (PV.ar 118 v4) [v0.toNat]).int) + (Jm (PV.ar 118 v3) [v0.toNat]).int)))), .sc (.int .u32 (Jm (PV.ar 113 v5) [4]).int), .sc (.int .u32 (Jm (PV.ar 113 v5) [5]).int), .sc (.int .u32 (Jm (PV.ar 113 v5) [6]).int)]) else none else none else none else none else none else none else none else none else none else none else none else none else none else none else none else none else none else none else none else none else k0 v1 v2 v5
def Zq (f : Nat) (k0 : List PV -> List PV -> List PV -> Option Res) : Nat -> Int -> List PV -> List PV -> List PV -> List PV -> List PV -> Option Res
 | 0, _, _, _, _, _, _ => none
 | n + 1, v0, v1, v2, v3, v4, v5 => Gq f (Zq f k0 n) k0 v0 v1 v2 v3 v4 v5
theorem Jpx (f : Nat) (k : Kont) (n : Nat) (v0 : Int) (v1 v2 v3 v4 v5 : List PV) : Jn tau 0 Yo (fun s k => ev tau F71 0 0 Jdu (Jgj ) s k) (n + 1) (Jd Yo N71 [.ptr 1824 [], .ptr 1825 [], .ptr 1826 [], .ptr 1827 [], .ptr 1828 [], .sc (.int .i64 v0)] [(1824, .box false 113 (PV.ar 113 v1)), (1825, .box false 113 (PV.ar 113 v2)), (1826, .box false 118 (PV.ar 118 v3)), (1827, .box false 118 (PV.ar 118 v4)), (1828, .box false 113 (PV.ar 113 v5))]) (Jt tau 0 Zo k) = Gq f (fun v0 v1 v2 v3 v4 v5 => Jn tau 0 Yo (fun s k => ev tau F71 0 0 Jdu (Jgj ) s k) n (Jd Yo N71 [.ptr 1824 [], .ptr 1825 [], .ptr 1826 [], .ptr 1827 [], .ptr 1828 [], .sc (.int .i64 v0)] [(1824, .box false 113 (PV.ar 113 v1)), (1825, .box false 113 (PV.ar 113 v2)), (1826, .box false 118 (PV.ar 118 v3)), (1827, .box false 118 (PV.ar 118 v4)), (1828, .box false 113 (PV.ar 113 v5))]) (Jt tau 0 Zo k)) (fun x0 x1 x2 => k (Ex.exit 0) (Jd Zo N71 [.ptr 1824 [], .ptr 1825 [], .ptr 1826 []] [(1824, .box false 113 (PV.ar 113 x0)), (1825, .box false 113 (PV.ar 113 x1)), (1826, .box false 113 (PV.ar 113 x2))])) v0 v1 v2 v3 v4 v5 := by kernel_rfl
theorem JjO (f : Nat) (k : Kont) : ∀ (n : Nat) (v0 : Int) (v1 v2 v3 v4 v5 : List PV), Jn tau 0 Yo (fun s k => ev tau F71 0 0 Jdu (Jgj ) s k) n (Jd Yo N71 [.ptr 1824 [], .ptr 1825 [], .ptr 1826 [], .ptr 1827 [], .ptr 1828 [], .sc (.int .i64 v0)] [(1824, .box false 113 (PV.ar 113 v1)), (1825, .box false 113 (PV.ar 113 v2)), (1826, .box false 118 (PV.ar 118 v3)), (1827, .box false 118 (PV.ar 118 v4)), (1828, .box false 113 (PV.ar 113 v5))]) (Jt tau 0 Zo k) = Zq f (fun x0 x1 x2 => k (Ex.exit 0) (Jd Zo N71 [.ptr 1824 [], .ptr 1825 [], .ptr 1826 []] [(1824, .box false 113 (PV.ar 113 x0)), (1825, .box false 113 (PV.ar 113 x1)), (1826, .box false 113 (PV.ar 113 x2))])) n v0 v1 v2 v3 v4 v5 | 0, _, _, _, _, _, _ => rfl | n + 1, v0, v1, v2, v3, v4, v5 => (Jpx f k n v0 v1 v2 v3 v4 v5).trans (congrArg (fun r => Gq f r (fun x0 x1 x2 => k (Ex.exit 0) (Jd Zo N71 [.ptr 1824 [], .ptr 1825 [], .ptr 1826 []] [(1824, .box false 113 (PV.ar 113 x0)), (1825, .box false 113 (PV.ar 113 x1)), (1826, .box false 113 (PV.ar 113 x2))])) v0 v1 v2 v3 v4 v5) (by funext v0 v1 v2 v3 v4 v5; exact JjO f k n v0 v1 v2 v3 v4 v5))
def Jdw (f : Nat) : List PV -> List (Nat × Ent) -> Kont -> Option Res
 | [.ptr 1824 [], .ptr 1825 [], .ptr 1826 [], .ptr 1827 [], .ptr 1828 [],
 PV.sc
  (Value.int IntKind.i64
   v0)], [(1824, .box false 113 (PV.ar 113 v1)), (1825, .box false 113 (PV.ar 113 v2)), (1826, .box false 118 (PV.ar 118 v3)), (1827, .box false 118 (PV.ar 118 v4)),
 (1828,
  Ent.box false 113
   (PV.ar 113
    v5))], k => Zq f (fun x0 x1 x2 => k (Ex.exit
 0) (Jd Zo N71 [.ptr 1824 [], .ptr 1825 [],
 PV.ptr 1826 []] [(1824, .box false 113 (PV.ar 113 x0)), (1825, .box false 113 (PV.ar 113 x1)), (1826, .box false 113 (PV.ar 113 x2))])) f v0 v1 v2 v3 v4 v5
 | _, _, _ => none
theorem JuN (f : Nat) : Je Jdu Jgj = [] := by kernel_rfl
theorem JyP (f : Nat) : (Item.l Jdu Yo N71 (Jdw f)).Ok tau Try.prog 0 := JI Jq Jh7 Jr (x := Jgj) (nm2 := Zo) (Js _ _ (by rw [JuN f]; intro q hq; cases hq)) fun vs hp k res hr => by
 unfold Jdw at hr
 split at hr
 · exact ⟨f, 0, (JjO f _ f _ _ _ _ _ _ ).trans hr⟩
 · cases hr
def Gr (f : Nat) (rc : Int -> List PV -> List PV -> List PV -> Option Res) (k0 : List PV -> List PV -> Option Res) (v0 : Int) (v1 v2 v3 : List PV) : Option Res := bif decide (v0 < 8) then bif decide (0 <= v0) && decide (v0 < zi 8) && true then bif PV.isInt IntKind.u32 (Jm (PV.ar 113 v3) [v0.toNat]) && true then bif decide (0 <= v0) && decide (v0 < zi 8) && true then bif PV.isInt IntKind.u32 (Jm (PV.ar 113 v1) [v0.toNat]) && true then bif decide (0 <= v0) && decide (v0 < zi 8) && true then rc (IntKind.i64.wrap (v0 + 1)) v1 v2 (v3.set v0.toNat (.sc (.int .u32 (IntKind.u32.wrap ((Jm (PV.ar 113 v3) [v0.toNat]).int + (Jm (PV.ar 113 v1) [v0.toNat]).int))))) else none else none else none else none else none else k0 v2 v3
def Zr (f : Nat) (k0 : List PV -> List PV -> Option Res) : Nat -> Int -> List PV -> List PV -> List PV -> Option Res
 | 0, _, _, _, _ => none
 | n + 1, v0, v1, v2, v3 => Gr f (Zr f k0 n) k0 v0 v1 v2 v3
theorem Jpy (f : Nat) (k : Kont) (n : Nat) (v0 : Int) (v1 v2 v3 : List PV) : Jn tau 0 Yp (fun s k => ev tau F71 0 0 Jdv (Jgk ) s k) (n + 1) (Jd Yp N71 [.ptr 1824 [], .ptr 1825 [], .ptr 1826 [], .sc (.int .i64 v0)] [(1824, .box false 113 (PV.ar 113 v1)), (1825, .box false 113 (PV.ar 113 v2)), (1826, .box false 113 (PV.ar 113 v3))]) (Jt tau 0 Zp k) = Gr f (fun v0 v1 v2 v3 => Jn tau 0 Yp (fun s k => ev tau F71 0 0 Jdv (Jgk ) s k) n (Jd Yp N71 [.ptr 1824 [], .ptr 1825 [], .ptr 1826 [], .sc (.int .i64 v0)] [(1824, .box false 113 (PV.ar 113 v1)), (1825, .box false 113 (PV.ar 113 v2)), (1826, .box false 113 (PV.ar 113 v3))]) (Jt tau 0 Zp k)) (fun x0 x1 => k (Ex.exit 2) (Jd Zp N71 [.ptr 1824 [], .ptr 1825 []] [(1824, .box false 113 (PV.ar 113 x0)), (1825, .box false 113 (PV.ar 113 x1))])) v0 v1 v2 v3 := by kernel_rfl
theorem JjP (f : Nat) (k : Kont) : ∀ (n : Nat) (v0 : Int) (v1 v2 v3 : List PV), Jn tau 0 Yp (fun s k => ev tau F71 0 0 Jdv (Jgk ) s k) n (Jd Yp N71 [.ptr 1824 [], .ptr 1825 [], .ptr 1826 [], .sc (.int .i64 v0)] [(1824, .box false 113 (PV.ar 113 v1)), (1825, .box false 113 (PV.ar 113 v2)), (1826, .box false 113 (PV.ar 113 v3))]) (Jt tau 0 Zp k) = Zr f (fun x0 x1 => k (Ex.exit 2) (Jd Zp N71 [.ptr 1824 [], .ptr 1825 []] [(1824, .box false 113 (PV.ar 113 x0)), (1825, .box false 113 (PV.ar 113 x1))])) n v0 v1 v2 v3 | 0, _, _, _, _ => rfl | n + 1, v0, v1, v2, v3 => (Jpy f k n v0 v1 v2 v3).trans (congrArg (fun r => Gr f r (fun x0 x1 => k (Ex.exit 2) (Jd Zp N71 [.ptr 1824 [], .ptr 1825 []] [(1824, .box false 113 (PV.ar 113 x0)), (1825, .box false 113 (PV.ar 113 x1))])) v0 v1 v2 v3) (by funext v0 v1 v2 v3; exact JjP f k n v0 v1 v2 v3))
def Jdx (f : Nat) : List PV -> List (Nat × Ent) -> Kont -> Option Res
 | [.ptr 1824 [], .ptr 1825 [], .ptr 1826 [],
 PV.sc
  (Value.int IntKind.i64
   v0)], [(1824, .box false 113 (PV.ar 113 v1)), (1825, .box false 113 (PV.ar 113 v2)),
 (1826,
  Ent.box false 113
   (PV.ar 113
    v3))], k => Zr f (fun x0 x1 => k (Ex.exit
 2) (Jd Zp N71 [.ptr 1824 [], .ptr 1825 []] [(1824, .box false 113 (PV.ar 113 x0)), (1825, .box false 113 (PV.ar 113 x1))])) f v0 v1 v2 v3
 | _, _, _ => none
theorem JuO (f : Nat) : Je Jdv Jgk = [] := by kernel_rfl
theorem JyQ (f : Nat) : (Item.l Jdv Yp N71 (Jdx f)).Ok tau Try.prog 0 := JI Jq Jh7 Jr (x := Jgk) (nm2 := Zp) (Js _ _ (by rw [JuO f]; intro q hq; cases hq)) fun vs hp k res hr => by
 unfold Jdx at hr
 split at hr
 · exact ⟨f, 0, (JjP f _ f _ _ _ _ ).trans hr⟩
 · cases hr
def g71 (f : Nat) (s : List PV) (nl fl : Bool) (b : List PV) (k : Res -> Option Res) : Option Res := bif Jh IntKind.u8 b && decide (b.length = 64) then Zq f (fun x0_0 x1_0 x2_0 => Zr f (fun x0_1 x1_1 => k (Res.mk (.ar 113 x1_1) [] [])) f (0) x0_0 x1_0 x2_0) f (0) s ([.sc (.int .u32 0), .sc (.int .u32 0), .sc (.int .u32 0), .sc (.int .u32 0), .sc (.int .u32 0), .sc (.int .u32 0), .sc (.int .u32 0), .sc (.int .u32 0)]) (pu IntKind.u32 (Qh (Ji b))) ([.sc (.int .u32 1116352408), .sc (.int .u32 1899447441), .sc (.int .u32 3049323471), .sc (.int .u32 3921009573), .sc (.int .u32 961987163), .sc (.int .u32 1508970993), .sc (.int .u32 2453635748), .sc (.int .u32 2870763221), .sc (.int .u32 3624381080), .sc (.int .u32 310598401), .sc (.int .u32 607225278), .sc (.int .u32 1426881987), .sc (.int .u32 1925078388), .sc (.int .u32 2162078206), .sc (.int .u32 2614888103), .sc (.int .u32 3248222580), .sc (.int .u32 3835390401), .sc (.int .u32 4022224774), .sc (.int .u32 264347078), .sc (.int .u32 604807628), .sc (.int .u32 770255983), .sc (.int .u32 1249150122), .sc (.int .u32 1555081692), .sc (.int .u32 1996064986), .sc (.int .u32 2554220882), .sc (.int .u32 2821834349), .sc (.int .u32 2952996808), .sc (.int .u32 3210313671), .sc (.int .u32 3336571891), .sc (.int .u32 3584528711), .sc (.int .u32 113926993), .sc (.int .u32 338241895), .sc (.int .u32 666307205), .sc (.int .u32 773529912), .sc (.int .u32 1294757372), .sc (.int .u32 1396182291), .sc (.int .u32 1695183700), .sc (.int .u32 1986661051), .sc (.int .u32 2177026350), .sc (.int .u32 2456956037), .sc (.int .u32 2730485921), .sc (.int .u32 2820302411), .sc (.int .u32 3259730800), .sc (.int .u32 3345764771), .sc (.int .u32 3516065817), .sc (.int .u32 3600352804), .sc (.int .u32 4094571909), .sc (.int .u32 275423344), .sc (.int .u32 430227734), .sc (.int .u32 506948616), .sc (.int .u32 659060556), .sc (.int .u32 883997877), .sc (.int .u32 958139571), .sc (.int .u32 1322822218), .sc (.int .u32 1537002063), .sc (.int .u32 1747873779), .sc (.int .u32 1955562222), .sc (.int .u32 2024104815), .sc (.int .u32 2227730452), .sc (.int .u32 2361852424), .sc (.int .u32 2428436474), .sc (.int .u32 2756734187), .sc (.int .u32 3204031479), .sc (.int .u32 3329325298)]) s else none
theorem e71 (f : Nat) (s : List PV) (nl fl : Bool) (b : List PV) (k : Res -> Option Res) : JN tau F71 Try.f71 (Try.f71.body.get!) (JuM (Jdw f) (Jdx f)) [] 0 [.ar 113 s, .ro 5 nl fl b] [] k = g71 f s nl fl b k := by kernel_rfl
theorem JEj (f : Nat) : Je (Try.f71.body.get!) (JuM (Jdw f) (Jdx f)) = [.l Jdu Yo N71 (Jdw f), .l Jdv Yp N71 (Jdx f)] := by kernel_rfl
theorem JEk (f : Nat) : ∀ q ∈ Je (Try.f71.body.get!) (JuM (Jdw f) (Jdx f)), q.Ok tau Try.prog 0 := by
 rw [JEj f]; simp only [List.forall_mem_cons, List.not_mem_nil, false_implies, implies_true, and_true]; exact ⟨JyP f, JyQ f⟩
theorem JyR : Try.prog.funcs[71]? = some Try.f71 := by kernel_rfl
theorem JyS : Try.f71.body = some (Try.f71.body.get!) := by kernel_rfl
theorem JEl : Enters Try.prog 71 := enters_of JyR (by kernel_rfl) JyS
-- FN (sha.state).add
theorem Zs {R : List Int} (h : R.length = 8) (j : Nat) (hj : j < 8) : (pu .u32 R).getD j .top = .sc (.int .u32 (R.getD j 0)) := Zc (by omega)
theorem Jsk (W s : List Int) (hW : W.length = 64) (hs : s.length = 8) (f : Nat) (k0 : List PV -> List PV -> List PV -> Option Res) (a b : List PV) : ∀ (d i n : Nat), i + d = 64 -> d < n ->
  Zq f k0 n (i : Int) a b (pu .u32 W) (pu .u32 kks) (pu .u32 (Zl W s i)) = k0 a b (pu .u32 (Zl W s 64))
 | 0, i, n + 1, h, hn => by
   obtain rfl : i = 64 := by omega
   simp only [Zq, Gq]
   exact Jv (by decide)
 | d + 1, i, n + 1, h, hn => by
   have hl := XA W s hs i
   have h1 : IntKind.i64.wrap ((i : Int) + 1) = ((i + 1 : Nat) : Int) := by rw [wrap_i64 (by omega) (by omega)]; omega
   have hk : (pu .u32 kks).getD i .top = .sc (.int .u32 (kks.getD i 0)) := Zc (by show i < 64; omega)
   have hw : (pu .u32 W).getD i .top = .sc (.int .u32 (W.getD i 0)) := Zc (by omega)
   have c1 : decide ((i : Int) < 64) = true := by simp; omega
   have c2 : decide (0 <= (i : Int)) = true := by simp
   have c3 : decide ((i : Int) < zi 64) = true := by simp; omega
   simp only [Zq, Gq, WR, Int.toNat_natCast, h1, hk, hw, c1, c2, c3, Zs hl 0 (by omega), Zs hl 1 (by omega), Zs hl 2 (by omega), Zs hl 3 (by omega), Zs hl 4 (by omega), Zs hl 5 (by omega), Zs hl 6 (by omega), Zs hl 7 (by omega), PV.isInt, PV.int, decide_true, Bool.and_true, cond_true]
   exact Jsk W s hW hs f k0 a b d (i + 1) n (by omega) (by omega)
theorem Jsl (t s : List Int) (ht : t.length = 8) (hs : s.length = 8) (f : Nat) (k0 : List PV -> List PV -> Option Res) (a : List PV) : ∀ (d i n : Nat), i + d = 8 -> d < n ->
  Zr f k0 n (i : Int) (pu .u32 s) a (pu .u32 (QB (fun j => ww (t.getD j 0 + s.getD j 0)) t i)) = k0 a (pu .u32 (QB (fun j => ww (t.getD j 0 + s.getD j 0)) t 8))
 | 0, i, n + 1, h, hn => by
   obtain rfl : i = 8 := by omega
   simp only [Zr, Gr]
   exact Jv (by decide)
 | d + 1, i, n + 1, h, hn => by
   have hl : (QB (fun j => ww (t.getD j 0 + s.getD j 0)) t i).length = 8 := by rw [Yn _ _ _ (by omega), ht]
   have h1 : IntKind.i64.wrap ((i : Int) + 1) = ((i + 1 : Nat) : Int) := by rw [wrap_i64 (by omega) (by omega)]; omega
   have c1 : decide ((i : Int) < 8) = true := by simp; omega
   have c2 : decide (0 <= (i : Int)) = true := by simp
   have c3 : decide ((i : Int) < zi 8) = true := by simp; omega
   have g1 : ((i : Int)).toNat = i := by omega
   simp only [Zr, Gr, WR, g1, h1, c1, c2, c3, Zs hl i (by omega), Zs hs i (by omega), Jak _ t i (by omega), PV.isInt, PV.int, decide_true, Bool.and_true, cond_true, Ws]
   have := Jsl t s ht hs f k0 a d (i + 1) n (by omega) (by omega)
   rw [← Qw _ t i (by omega)] at this
   exact this
theorem JuP (s bs : List Int) (hs : s.length = 8) (hb : bs.length = 64) (nl fl : Bool) (k : Res -> Option Res) : g71 100 (pu .u32 s) nl fl (pu .u8 bs) k = k ⟨.ar 113 (pu .u32 (Jgh s bs)), [], []⟩ := by
 have hW : (Qh bs).length = 64 := JX bs 48
 have hc : (Jh .u8 (pu .u8 bs) && decide ((pu .u8 bs).length = 64)) = true := by simp [hb]
 refine (Jb hc).trans ?_
 rw [QW]
 have h0 : ∀ k0 a b, Zq 100 k0 100 0 a b (pu .u32 (Qh bs)) (pu .u32 kks) (pu .u32 s) = k0 a b (pu .u32 (Zl (Qh bs) s 64)) := fun k0 a b => Jsk (Qh bs) s hW hs 100 k0 a b 64 0 100 (by omega) (by omega)
 have ht := XA (Qh bs) s hs 64
 have h1 : ∀ k0 a, Zr 100 k0 100 0 (pu .u32 s) a (pu .u32 (Zl (Qh bs) s 64)) = k0 a (pu .u32 (Jgh s bs)) := by
  intro k0 a
  have := Jsl (Zl (Qh bs) s 64) s ht hs 100 k0 a 8 0 100 (by omega) (by omega)
  rw [QH] at this
  refine this.trans ?_
  have h2 := Q2 (fun j => ww ((Zl (Qh bs) s 64).getD j 0 + s.getD j 0)) (Zl (Qh bs) s 64)
  rw [ht] at h2; rw [h2]; rfl
 exact (h0 _ _ _).trans (h1 _ _)
def Jh8 : List PV -> List Ent -> (Res -> Option Res) -> Option Res
 | [.ar 113 s, .ro 5 nl fl b], [], k => bif (Jh .u32 s && decide (s.length = 8)) && (Jh .u8 b && decide (b.length = 64)) then k ⟨.ar 113 (pu .u32 (Jgh (Ji s) (Ji b))), [], []⟩ else none
 | _, _, _ => none
def JyT : Sig := { own := [], run := Jh8 }
theorem JyU : Jf tau Try.prog 71 JyT := JP Jq Jh7 Jr JyR JyS _ [] 0 [] Jh8 (JEk 100) fun xs es k res hr => by
 unfold Jh8 at hr
 split at hr
 · obtain ⟨hc, hr⟩ := JG hr
   simp only [Bool.and_eq_true, decide_eq_true_eq] at hc
   refine ⟨rfl, 0, (e71 100 _ _ _ _ _).trans ?_⟩
   rw [Qc hc.2.1, Qc hc.1.1, JuP _ _ (by simpa using hc.1.2) (by simpa using hc.2.2)]
   exact hr
 · cases hr
def JyV : Fns := F0
theorem Jpz : Ju tau Try.prog JyV := JB
def JjQ : An := (.seq .leaf (.seq (.seq .leaf (.cond .leaf .leaf)) (.seq (.seq .leaf (.seq .leaf (.cond .leaf .leaf))) (.seq .leaf .leaf))))
def JyW (f : Nat) (n : Int) (k : Res -> Option Res) : Option Res := bif decide (n < 0) then none else bif decide (IntKind.i64.wrap (n - IntKind.i64.wrap (zi 0 - zi 0)) > 0) then bif decide (0 <= IntKind.i64.wrap (n - IntKind.i64.wrap (zi 0 - zi 0))) && Jl (IntKind.i64.wrap (n - IntKind.i64.wrap (zi 0 - zi 0))).toNat 1 && true then k (Res.mk (.ow 5 16 [] 0 0 none) [] [.vec false 5 (IntKind.i64.wrap (n - IntKind.i64.wrap (zi 0 - zi 0)) == 0) (List.replicate (IntKind.i64.wrap (n - IntKind.i64.wrap (zi 0 - zi 0))).toNat (.sc (.int .u8 0)))]) else none else k (Res.mk (.ro 5 true true []) [] [])
theorem JEm (f : Nat) (n : Int) (k : Res -> Option Res) : JN tau JyV Try.f121 (Try.f121.body.get!) JjQ [] 0 [.ro 5 true true [], .sc (.int .i64 n)] [] k = JyW f n k := by kernel_rfl
theorem JyX (f : Nat) : Je (Try.f121.body.get!) JjQ = [] := by kernel_rfl
theorem JyY (f : Nat) : ∀ q ∈ Je (Try.f121.body.get!) JjQ, q.Ok tau Try.prog 0 := by
 rw [JyX f]; intro q hq; cases hq
theorem Jsm : Try.prog.funcs[121]? = some Try.f121 := by kernel_rfl
theorem Jsn : Try.f121.body = some (Try.f121.body.get!) := by kernel_rfl
theorem JyZ : Enters Try.prog 121 := enters_of Jsm (by kernel_rfl) Jsn
def Jh9 : List PV -> List Ent -> (Res -> Option Res) -> Option Res
 | [.ro 5 true true [], .sc (.int .i64 n)], [], k => JyW 0 n k
 | _, _, _ => none
def Jy0 : Sig := { own := [], run := Jh9 }
theorem Jy1 : Jf tau Try.prog 121 Jy0 := JP Jq Jpz Jr Jsm Jsn JjQ [] 0 [] Jh9 (JyY 0) fun xs es k res hr => by
 unfold Jh9 at hr
 split at hr
 · exact ⟨rfl, 0, (JEm 0 _  _).trans hr⟩
 · cases hr
def N70 : Nat := 36
def F70 : Fns := JC 121 Jy0 (F0)
theorem Jia : Ju tau Try.prog F70 := (JB).add Jy1 JyZ
def Jdy : Code := Qu (Try.f70.body.get!) [1, 1, 0, 1, 0, 0]
def Yq : Nm := [(0, .any), (3, .any), (9, .any), (10, .any), (11, .any)]
def Zt : Nm := [(0, .any), (3, .any)]
def Jgl : An := (.seq .leaf (.seq (.cond .leaf .leaf) (.seq (.block none (.seq .leaf (.seq .leaf (.seq .leaf (.cond .leaf .leaf))))) .leaf)))
def Jdz : Code := Qu (Try.f70.body.get!) [1, 1, 1, 1, 0, 1, 0, 0]
def Yr : Nm := [(6, .own), (25, .any), (26, .any), (27, .any)]
def Zu : Nm := [(6, .any)]
def Jgm : An := (.seq .leaf (.seq (.cond .leaf .leaf) (.seq (.block none (.seq .leaf .leaf)) .leaf)))
def JpA (r0 : QJ) (r1 : QJ) : An := (.seq .leaf (.seq .leaf (.seq (.seq .leaf (.block none (.sum Yq N70 r0))) (.seq .leaf (.seq (.seq .leaf (.block none (.sum Yr N70 r1))) (.seq .leaf .leaf))))))
def Gs (f : Nat) (rc : Bool -> Bool -> List PV -> Int -> Bool -> Bool -> List PV -> Int -> Int -> Option Res) (k0 : Bool -> Bool -> List PV -> Int -> Option Res) (v0 v1 : Bool) (v2 : List PV) (v3 : Int) (v4 v5 : Bool) (v6 : List PV) (v7 v8 : Int) : Option Res := bif decide (v8 < v7) then bif decide (0 <= v8) && decide (v8 < zi v6.length) && PV.isRo 5 (v6.getD v8.toNat PV.top) && true then bif decide (IntKind.i64.wrap (v3 + zi (v6.getD v8.toNat PV.top).els.length) < 0) then none else rc v0 v1 v2 (IntKind.i64.wrap (v3 + zi (v6.getD v8.toNat PV.top).els.length)) v4 v5 v6 v7 (IntKind.i64.wrap (v8 + 1)) else none else k0 v0 v1 v2 v3
def VE (f : Nat) (k0 : Bool -> Bool -> List PV -> Int -> Option Res) : Nat -> Bool -> Bool -> List PV -> Int -> Bool -> Bool -> List PV -> Int -> Int -> Option Res
 | 0, _, _, _, _, _, _, _, _, _ => none
 | n + 1, v0, v1, v2, v3, v4, v5, v6, v7, v8 => Gs f (VE f k0 n) k0 v0 v1 v2 v3 v4 v5 v6 v7 v8
theorem JpB (f : Nat) (k : Kont) (n : Nat) (v0 v1 : Bool) (v2 : List PV) (v3 : Int) (v4 v5 : Bool) (v6 : List PV) (v7 v8 : Int) : Jn tau 0 Yq (fun s k => ev tau F70 0 0 Jdy (Jgl ) s k) (n + 1) (Jd Yq N70 [.ro 29 v0 v1 v2, .sc (.int .i64 v3), .ro 29 v4 v5 v6, .sc (.int .i64 v7), .sc (.int .i64 v8)] []) (Jt tau 0 Zt k) = Gs f (fun v0 v1 v2 v3 v4 v5 v6 v7 v8 => Jn tau 0 Yq (fun s k => ev tau F70 0 0 Jdy (Jgl ) s k) n (Jd Yq N70 [.ro 29 v0 v1 v2, .sc (.int .i64 v3), .ro 29 v4 v5 v6, .sc (.int .i64 v7), .sc (.int .i64 v8)] []) (Jt tau 0 Zt k)) (fun x0 x1 x2 x3 => k (Ex.exit 0) (Jd Zt N70 [.ro 29 x0 x1 x2, .sc (.int .i64 x3)] [])) v0 v1 v2 v3 v4 v5 v6 v7 v8 := by kernel_rfl
theorem JjR (f : Nat) (k : Kont) : ∀ (n : Nat) (v0 v1 : Bool) (v2 : List PV) (v3 : Int) (v4 v5 : Bool) (v6 : List PV) (v7 v8 : Int), Jn tau 0 Yq (fun s k => ev tau F70 0 0 Jdy (Jgl ) s k) n (Jd Yq N70 [.ro 29 v0 v1 v2, .sc (.int .i64 v3), .ro 29 v4 v5 v6, .sc (.int .i64 v7), .sc (.int .i64 v8)] []) (Jt tau 0 Zt k) = VE f (fun x0 x1 x2 x3 => k (Ex.exit 0) (Jd Zt N70 [.ro 29 x0 x1 x2, .sc (.int .i64 x3)] [])) n v0 v1 v2 v3 v4 v5 v6 v7 v8 | 0, _, _, _, _, _, _, _, _, _ => rfl | n + 1, v0, v1, v2, v3, v4, v5, v6, v7, v8 => (JpB f k n v0 v1 v2 v3 v4 v5 v6 v7 v8).trans (congrArg (fun r => Gs f r (fun x0 x1 x2 x3 => k (Ex.exit 0) (Jd Zt N70 [.ro 29 x0 x1 x2, .sc (.int .i64 x3)] [])) v0 v1 v2 v3 v4 v5 v6 v7 v8) (by funext v0 v1 v2 v3 v4 v5 v6 v7 v8; exact JjR f k n v0 v1 v2 v3 v4 v5 v6 v7 v8))
def Jb9 (f : Nat) : List PV -> List (Nat × Ent) -> Kont -> Option Res
 | [.ro 29 v0 v1 v2, .sc (.int .i64 v3), .ro 29 v4 v5 v6, .sc (.int .i64 v7),
 .sc (.int .i64 v8)], [], k => VE f (fun x0 x1 x2 x3 => k (Ex.exit 0) (Jd Zt N70 [.ro 29 x0 x1 x2, .sc (.int .i64 x3)] [])) f v0 v1 v2 v3 v4 v5 v6 v7 v8
 | _, _, _ => none
theorem JuQ (f : Nat) : Je Jdy Jgl = [] := by kernel_rfl
theorem Jy2 (f : Nat) : (Item.l Jdy Yq N70 (Jb9 f)).Ok tau Try.prog 0 := JI Jq Jia Jr (x := Jgl) (nm2 := Zt) (Js _ _ (by rw [JuQ f]; intro q hq; cases hq)) fun vs hp k res hr => by
 unfold Jb9 at hr
 split at hr
 · exact ⟨f, 0, (JjR f _ f _ _ _ _ _ _ _ _ _ ).trans hr⟩
 · cases hr
def Gt (f : Nat) (rc : Nat -> Bool -> Bool -> List PV -> Int -> Int -> Bool -> List PV -> Option Res) (k0 : Nat -> Bool -> List PV -> Option Res) (v0 : Nat) (v1 v2 : Bool) (v3 : List PV) (v4 v5 : Int) (v6 : Bool) (v7 : List PV) : Option Res := bif decide (v5 < v4) then bif decide (0 <= v5) && decide (v5 < zi v3.length) && PV.isRo 5 (v3.getD v5.toNat PV.top) && true then bif Jl (v0 + (v3.getD v5.toNat PV.top).els.length) 1 && true then rc (v0 + (v3.getD v5.toNat PV.top).els.length) v1 v2 v3 v4 (IntKind.i64.wrap (v5 + 1)) (v6 && (v3.getD v5.toNat PV.top).els.isEmpty) (List.take v0 v7 ++ (v3.getD v5.toNat PV.top).els) else none else none else k0 v0 v6 v7
def XM (f : Nat) (k0 : Nat -> Bool -> List PV -> Option Res) : Nat -> Nat -> Bool -> Bool -> List PV -> Int -> Int -> Bool -> List PV -> Option Res
 | 0, _, _, _, _, _, _, _, _ => none
 | n + 1, v0, v1, v2, v3, v4, v5, v6, v7 => Gt f (XM f k0 n) k0 v0 v1 v2 v3 v4 v5 v6 v7
theorem JpC (f : Nat) (k : Kont) (n v0 : Nat) (v1 v2 : Bool) (v3 : List PV) (v4 v5 : Int) (v6 : Bool) (v7 : List PV) : Jn tau 0 Yr (fun s k => ev tau F70 0 0 Jdz (Jgm ) s k) (n + 1) (Jd Yr N70 [.ow 5 592 [] 0 v0 none, .ro 29 v1 v2 v3, .sc (.int .i64 v4), .sc (.int .i64 v5)] [(592, .vec false 5 v6 v7)]) (Jt tau 0 Zu k) = Gt f (fun v0 v1 v2 v3 v4 v5 v6 v7 => Jn tau 0 Yr (fun s k => ev tau F70 0 0 Jdz (Jgm ) s k) n (Jd Yr N70 [.ow 5 592 [] 0 v0 none, .ro 29 v1 v2 v3, .sc (.int .i64 v4), .sc (.int .i64 v5)] [(592, .vec false 5 v6 v7)]) (Jt tau 0 Zu k)) (fun x0 x1 x2 => k (Ex.exit 2) (Jd Zu N70 [.ow 5 592 [] 0 x0 none] [(592, .vec false 5 x1 x2)])) v0 v1 v2 v3 v4 v5 v6 v7 := by kernel_rfl
theorem JjS (f : Nat) (k : Kont) : ∀ (n v0 : Nat) (v1 v2 : Bool) (v3 : List PV) (v4 v5 : Int) (v6 : Bool) (v7 : List PV), Jn tau 0 Yr (fun s k => ev tau F70 0 0 Jdz (Jgm ) s k) n (Jd Yr N70 [.ow 5 592 [] 0 v0 none, .ro 29 v1 v2 v3, .sc (.int .i64 v4), .sc (.int .i64 v5)] [(592, .vec false 5 v6 v7)]) (Jt tau 0 Zu k) = XM f (fun x0 x1 x2 => k (Ex.exit 2) (Jd Zu N70 [.ow 5 592 [] 0 x0 none] [(592, .vec false 5 x1 x2)])) n v0 v1 v2 v3 v4 v5 v6 v7 | 0, _, _, _, _, _, _, _, _ => rfl | n + 1, v0, v1, v2, v3, v4, v5, v6, v7 => (JpC f k n v0 v1 v2 v3 v4 v5 v6 v7).trans (congrArg (fun r => Gt f r (fun x0 x1 x2 => k (Ex.exit 2) (Jd Zu N70 [.ow 5 592 [] 0 x0 none] [(592, .vec false 5 x1 x2)])) v0 v1 v2 v3 v4 v5 v6 v7) (by funext v0 v1 v2 v3 v4 v5 v6 v7; exact JjS f k n v0 v1 v2 v3 v4 v5 v6 v7))
def Jca (f : Nat) : List PV -> List (Nat × Ent) -> Kont -> Option Res
 | [.ow 5 592 [] 0 v0 none, .ro 29 v1 v2 v3, .sc (.int .i64 v4),
 PV.sc
  (Value.int IntKind.i64
   v5)], [(592, .vec false 5 v6 v7)], k => XM f (fun x0 x1 x2 => k (Ex.exit 2) (Jd Zu N70 [.ow 5 592 [] 0 x0 none] [(592, .vec false 5 x1 x2)])) f v0 v1 v2 v3 v4 v5 v6 v7
 | _, _, _ => none
theorem JuR (f : Nat) : Je Jdz Jgm = [] := by kernel_rfl
theorem Jy3 (f : Nat) : (Item.l Jdz Yr N70 (Jca f)).Ok tau Try.prog 0 := JI Jq Jia Jr (x := Jgm) (nm2 := Zu) (Js _ _ (by rw [JuR f]; intro q hq; cases hq)) fun vs hp k res hr => by
 unfold Jca at hr
 split at hr
 · exact ⟨f, 0, (JjS f _ f _ _ _ _ _ _ _ _ ).trans hr⟩
 · cases hr
def g70 (f : Nat) (y0 y1 : Bool) (slices : List PV) (k : Res -> Option Res) : Option Res := VE f (fun x0_0 x1_0 x2_0 x3_0 => bif decide (x3_0 < 0) then none else bif decide (IntKind.i64.wrap (x3_0 - IntKind.i64.wrap (zi 0 - zi 0)) > 0) then bif decide (0 <= IntKind.i64.wrap (x3_0 - IntKind.i64.wrap (zi 0 - zi 0))) && Jl (IntKind.i64.wrap (x3_0 - IntKind.i64.wrap (zi 0 - zi 0))).toNat 1 && true then XM f (fun x0_1 x1_1 x2_1 => k (Res.mk (.ow 5 16 [] 0 x0_1 none) [] [.vec false 5 x1_1 x2_1])) f (0) x0_0 x1_0 x2_0 (zi x2_0.length) (0) (IntKind.i64.wrap (x3_0 - IntKind.i64.wrap (zi 0 - zi 0)) == 0) (List.replicate (IntKind.i64.wrap (x3_0 - IntKind.i64.wrap (zi 0 - zi 0))).toNat (.sc (.int .u8 0))) else none else XM f (fun x0_2 x1_2 x2_2 => k (Res.mk (.ow 5 16 [] 0 x0_2 none) [] [.vec false 5 x1_2 x2_2])) f (0) x0_0 x1_0 x2_0 (zi x2_0.length) (0) true ([])) f y0 y1 slices (0) y0 y1 slices (zi slices.length) (0)
theorem e70 (f : Nat) (y0 y1 : Bool) (slices : List PV) (k : Res -> Option Res) : JN tau F70 Try.f70 (Try.f70.body.get!) (JpA (Jb9 f) (Jca f)) [] 0 [.ro 29 y0 y1 slices] [] k = g70 f y0 y1 slices k := by kernel_rfl
theorem JEn (f : Nat) : Je (Try.f70.body.get!) (JpA (Jb9 f) (Jca f)) = [.l Jdy Yq N70 (Jb9 f), .l Jdz Yr N70 (Jca f)] := by kernel_rfl
theorem JEo (f : Nat) : ∀ q ∈ Je (Try.f70.body.get!) (JpA (Jb9 f) (Jca f)), q.Ok tau Try.prog 0 := by
 rw [JEn f]; simp only [List.forall_mem_cons, List.not_mem_nil, false_implies, implies_true, and_true]; exact ⟨Jy2 f, Jy3 f⟩
theorem Jy4 : Try.prog.funcs[70]? = some Try.f70 := by kernel_rfl
theorem Jy5 : Try.f70.body = some (Try.f70.body.get!) := by kernel_rfl
theorem JuS : Enters Try.prog 70 := enters_of Jy4 (by kernel_rfl) Jy5
-- FN slices.Concat[[]byte,byte]
def Jo (l : List PV) : List PV := (l.map PV.els).flatten
@[simp] theorem JmH : Jo [] = [] := rfl
@[simp] theorem Va (p : PV) (l : List PV) : Jo (p :: l) = p.els ++ Jo l := by simp [Jo]
theorem Ja1 (a b : List PV) : Jo (a ++ b) = Jo a ++ Jo b := by simp [Jo]
theorem Jcb (l : List PV) (i : Nat) (h : i < l.length) : l.take (i + 1) = l.take i ++ [l.getD i .top] := by
 rw [List.take_add_one, List.getD_eq_getElem?_getD, List.getElem?_eq_getElem h]; rfl
theorem Jgn (l : List PV) (i : Nat) (h : i < l.length) : l.drop i = l.getD i .top :: l.drop (i + 1) := by
 rw [List.drop_eq_getElem_cons h, List.getD_eq_getElem?_getD, List.getElem?_eq_getElem h]; rfl
theorem Jam (l : List PV) (i : Nat) (h : i < l.length) : Jo (l.take (i + 1)) = Jo (l.take i) ++ (l.getD i .top).els := by
 rw [Jcb l i h, Ja1, Va, JmH, List.append_nil]
theorem Gu (l : List PV) (i : Nat) : (Jo (l.take i)).length <= (Jo l).length := by
 have : Jo l = Jo (l.take i) ++ Jo (l.drop i) := by rw [← Ja1, List.take_append_drop]
 rw [this, List.length_append]; omega
theorem JdA {l : List PV} (h : l.all (PV.isRo 5) = true) {i : Nat} (hi : i < l.length) : (l.getD i .top).isRo 5 = true := by
 rw [List.getD_eq_getElem?_getD, List.getElem?_eq_getElem hi]
 exact List.all_eq_true.1 h _ (List.getElem_mem hi)
theorem Jgo {α : Type} (a b : List α) : (a ++ b).isEmpty = (a.isEmpty && b.isEmpty) := by cases a <;> rfl
theorem Jso (f : Nat) (k0 : Bool -> Bool -> List PV -> Int -> Option Res) (a b : Bool) (c : List PV) (nl fl : Bool) (l : List PV) (hl : l.all (PV.isRo 5) = true) (hs : (Jo l).length <= 140737488355328) (hn : l.length <= 140737488355328) : ∀ (d i n : Nat), i + d = l.length -> d < n ->
  VE f k0 n a b c ((Jo (l.take i)).length : Int) nl fl l (l.length : Int) (i : Int) = k0 a b c ((Jo l).length : Int)
 | 0, i, n + 1, h, hd => by
   obtain rfl : i = l.length := by omega
   simp only [VE, Gs]
   exact (Jv (by simp)).trans (by rw [List.take_length])
 | d + 1, i, n + 1, h, hd => by
   have hle := Gu l (i + 1)
   have hadd : (Jo (l.take (i + 1))).length = (Jo (l.take i)).length + (l.getD i .top).els.length := by rw [Jam l i (by omega), List.length_append]
   have h1 : IntKind.i64.wrap ((i : Int) + 1) = ((i + 1 : Nat) : Int) := by rw [wrap_i64 (by omega) (by omega)]; omega
   have h2 : IntKind.i64.wrap (((Jo (l.take i)).length : Int) + ((l.getD i .top).els.length : Int)) = ((Jo (l.take (i + 1))).length : Int) := by rw [wrap_i64 (by omega) (by omega)]; omega
   simp only [VE, Gs, zi, Int.toNat_natCast, h1, h2]
   refine (Jb (by simp <;> omega)).trans ?_
   refine (Jb (by rw [JdA hl (by omega)]; simp; omega)).trans ?_
   refine (Jv (by simp <;> omega)).trans ?_
   exact Jso f k0 a b c nl fl l hl hs hn d (i + 1) n (by omega) (by omega)
theorem JmI (f : Nat) (k0 : Nat -> Bool -> List PV -> Option Res) (nl fl : Bool) (l : List PV) (hl : l.all (PV.isRo 5) = true) (hs : (Jo l).length <= 140737488355328) (hn : l.length <= 140737488355328) : ∀ (d i n : Nat) (z : Bool) (v : List PV), i + d = l.length -> d < n -> v.take (Jo (l.take i)).length = Jo (l.take i) -> (d = 0 -> v = Jo l) ->
  XM f k0 n (Jo (l.take i)).length nl fl l (l.length : Int) (i : Int) z v = k0 (Jo l).length (z && (Jo (l.drop i)).isEmpty) (Jo l)
 | 0, i, n + 1, z, v, h, hd, hv, h0 => by
   obtain rfl : i = l.length := by omega
   simp only [XM, Gt]
   refine (Jv (by simp)).trans ?_
   rw [List.take_length, h0 rfl, List.drop_length]; simp
 | d + 1, i, n + 1, z, v, h, hd, hv, h0 => by
   have hle := Gu l (i + 1)
   have hadd : (Jo (l.take (i + 1))).length = (Jo (l.take i)).length + (l.getD i .top).els.length := by rw [Jam l i (by omega), List.length_append]
   have h1 : IntKind.i64.wrap ((i : Int) + 1) = ((i + 1 : Nat) : Int) := by rw [wrap_i64 (by omega) (by omega)]; omega
   simp only [XM, Gt, zi, Int.toNat_natCast, h1, hv]
   refine (Jb (by simp <;> omega)).trans ?_
   refine (Jb (by rw [JdA hl (by omega)]; simp; omega)).trans ?_
   refine (Jb (by simp only [Jl, Bool.and_true, decide_eq_true_eq]; omega)).trans ?_
   have := JmI f k0 nl fl l hl hs hn d (i + 1) n (z && (l.getD i .top).els.isEmpty) (Jo (l.take (i + 1))) (by omega) (by omega) (List.take_length) (fun hd0 => by rw [show i + 1 = l.length from by omega, List.take_length])
   rw [hadd, Jam l i (by omega)] at this
   rw [this, Jgn l i (by omega), Va, Jgo, Bool.and_assoc]
def Jib : List PV -> List Ent -> (Res -> Option Res) -> Option Res
 | [.ro 29 nl fl l], [], k => bif l.all (PV.isRo 5) && (decide ((Jo l).length <= 140737488355328) && decide (l.length <= 140737488355328)) then k ⟨.ow 5 16 [] 0 (Jo l).length none, [], [.vec false 5 (Jo l).isEmpty (Jo l)]⟩ else none
 | _, _, _ => none
def JpD : Sig := { own := [], run := Jib }
theorem JuT (nl fl : Bool) (l : List PV) (k : Res -> Option Res) (hl : l.all (PV.isRo 5) = true) (hs : (Jo l).length <= 140737488355328) (hn : l.length <= 140737488355328) :
  g70 (l.length + 1) nl fl l k = k ⟨.ow 5 16 [] 0 (Jo l).length none, [], [.vec false 5 (Jo l).isEmpty (Jo l)]⟩ := by
 have h0 := Jso (l.length + 1) (fun x0_0 x1_0 x2_0 x3_0 =>
  bif decide (x3_0 < 0) then
   none
  else bif decide (IntKind.i64.wrap (x3_0 - IntKind.i64.wrap (zi 0 - zi 0)) > 0) then
   bif decide (0 <= IntKind.i64.wrap (x3_0 - IntKind.i64.wrap (zi 0 - zi 0))) && Jl (IntKind.i64.wrap (x3_0 - IntKind.i64.wrap (zi 0 - zi 0))).toNat 1 && true then
    XM (l.length + 1) (fun x0_1 x1_1 x2_1 =>
     k (Res.mk (PV.ow 5 16 [] 0 x0_1 none) []
      [Ent.vec false 5 x1_1
       x2_1])) (l.length + 1) (0) x0_0 x1_0 x2_0 (zi
     x2_0.length) (0) (IntKind.i64.wrap (x3_0 - IntKind.i64.wrap (zi 0 - zi 0)) ==
     0) (List.replicate (IntKind.i64.wrap (x3_0 - IntKind.i64.wrap (zi 0 - zi 0))).toNat (PV.sc (Value.int IntKind.u8 0)))
   else none
  else XM (l.length + 1) (fun x0_2 x1_2 x2_2 =>
   k (Res.mk (PV.ow 5 16 [] 0 x0_2 none) [] [Ent.vec false 5 x1_2 x2_2])) (l.length + 1) (0) x0_0 x1_0 x2_0 (zi x2_0.length) (0) true ([])) nl fl l nl fl l hl hs hn l.length 0 (l.length + 1) (by omega) (by omega)
 refine h0.trans ?_
 have hw : IntKind.i64.wrap (((Jo l).length : Int) - IntKind.i64.wrap (zi 0 - zi 0)) = ((Jo l).length : Int) := by
  have : IntKind.i64.wrap (zi 0 - zi 0) = 0 := by decide
  rw [this, wrap_i64 (by omega) (by omega)]; omega
 simp only [hw]
 refine (Jv (by simp <;> omega)).trans ?_
 cases he : (Jo l).isEmpty with
 | true =>
  have he' : Jo l = [] := by simpa using he
  refine (Jv (by simp [he'])).trans ?_
  have := JmI (l.length + 1) (fun x0_2 x1_2 x2_2 => k (Res.mk (PV.ow 5 16 [] 0 x0_2 none) [] [Ent.vec false 5 x1_2 x2_2])) nl fl l hl hs hn l.length 0 (l.length + 1) true [] (by omega) (by omega) (by simp) (fun _ => he'.symm)
  refine this.trans ?_
  simp [he']
 | false =>
  have he' : Jo l ≠ [] := by simpa using he
  have hpos : 0 < (Jo l).length := List.length_pos_iff.2 he'
  have hl0 : l.length ≠ 0 := by
   intro h; rw [List.length_eq_zero_iff] at h; subst h; simp at he'
  refine (Jb (by simp <;> omega)).trans ?_
  refine (Jb (by simp [Jl] <;> omega)).trans ?_
  have := JmI (l.length + 1) (fun x0_2 x1_2 x2_2 => k (Res.mk (PV.ow 5 16 [] 0 x0_2 none) [] [Ent.vec false 5 x1_2 x2_2])) nl fl l hl hs hn l.length 0 (l.length + 1) (((Jo l).length : Int) == 0) (List.replicate (((Jo l).length : Int)).toNat (PV.sc (Value.int IntKind.u8 0))) (by omega) (by omega) (by simp) (fun h => absurd h hl0)
  refine this.trans ?_
  have hz : (((Jo l).length : Int) == 0) = false := by simp [he']
  rw [hz]; rfl
theorem JmJ : Jf tau Try.prog 70 JpD := JhL Jq Jia Jr Jy4 Jy5 (fun n => JpA (Jb9 n) (Jca n)) [] 0 [] Jib (fun n => JEo n) fun xs es k res hr => by
 unfold Jib at hr
 split at hr
 · rename_i nl fl l
   obtain ⟨hc, hr⟩ := JG hr
   simp only [Bool.and_eq_true, decide_eq_true_eq] at hc
   refine ⟨rfl, l.length + 1, 0, (e70 _ _ _ _ _).trans ?_⟩
   rw [JuT _ _ _ _ hc.1 hc.2.1 hc.2.2]; exact hr
 · cases hr
def N69 : Nat := 33
def F69 : Fns := F0
theorem Jic : Ju tau Try.prog F69 := JB
def Jcc : Code := Qu (Try.f69.body.get!) [1, 0, 1, 1, 1, 1, 0, 1, 0, 0]
def XN : Nm := [(0, .any), (3, .any), (19, .any)]
def Zv : Nm := [(0, .any)]
def Jgp : An := (.seq .leaf (.seq (.cond .leaf .leaf) (.seq (.block none (.seq .leaf .leaf)) .leaf)))
def Gv : Code := Qu (Try.f69.body.get!) [1, 0]
def Ys : Nm := [(0, .any), (3, .any)]
def Zw : Nm := [(2, .any)]
def JdB (r1 : QJ) : An := (.seq .leaf (.seq .leaf (.seq .leaf (.seq (.seq .leaf (.cond (.seq .leaf .leaf) .leaf)) (.seq (.seq .leaf (.block none (.sum XN N69 r1))) (.seq .leaf .leaf))))))
def JuU (r0 : Jxr) (r1 : QJ) : An := (.seq .leaf (.ssum Ys N69 (JdB r1) r0))
def Gw (f : Nat) (rc : Nat -> Int -> Int -> Bool -> List PV -> Option Res) (k0 : Nat -> Bool -> List PV -> Option Res) (v0 : Nat) (v1 v2 : Int) (v3 : Bool) (v4 : List PV) : Option Res := bif decide (v2 < 8) then bif decide (0 <= IntKind.i64.wrap (56 - IntKind.i64.wrap (8 * v2))) && true then bif Jl (v0 + 1) 1 && true then rc (v0 + 1) v1 (IntKind.i64.wrap (v2 + 1)) (v3 && false) (List.take v0 v4 ++ [.sc (.int .u8 (IntKind.u8.wrap (JD IntKind.u64 v1 (IntKind.i64.wrap (56 - IntKind.i64.wrap (8 * v2))))))]) else none else none else k0 v0 v3 v4
def XO (f : Nat) (k0 : Nat -> Bool -> List PV -> Option Res) : Nat -> Nat -> Int -> Int -> Bool -> List PV -> Option Res
 | 0, _, _, _, _, _ => none
 | n + 1, v0, v1, v2, v3, v4 => Gw f (XO f k0 n) k0 v0 v1 v2 v3 v4
theorem JpE (f : Nat) (k : Kont) (n v0 : Nat) (v1 v2 : Int) (v3 : Bool) (v4 : List PV) : Jn tau 1 XN (fun s k => ev tau F69 1 0 Jcc (Jgp ) s k) (n + 1) (Jd XN N69 [.ow 5 545 [] 0 v0 none, .sc (.int .u64 v1), .sc (.int .i64 v2)] [(0, .dead), (545, .vec false 5 v3 v4)]) (Jt tau 1 Zv k) = Gw f (fun v0 v1 v2 v3 v4 => Jn tau 1 XN (fun s k => ev tau F69 1 0 Jcc (Jgp ) s k) n (Jd XN N69 [.ow 5 545 [] 0 v0 none, .sc (.int .u64 v1), .sc (.int .i64 v2)] [(0, .dead), (545, .vec false 5 v3 v4)]) (Jt tau 1 Zv k)) (fun x0 x1 x2 => k (Ex.exit 0) (Jd Zv N69 [.ow 5 545 [] 0 x0 none] [(0, .dead), (545, .vec false 5 x1 x2)])) v0 v1 v2 v3 v4 := by kernel_rfl
theorem JjT (f : Nat) (k : Kont) : ∀ (n v0 : Nat) (v1 v2 : Int) (v3 : Bool) (v4 : List PV), Jn tau 1 XN (fun s k => ev tau F69 1 0 Jcc (Jgp ) s k) n (Jd XN N69 [.ow 5 545 [] 0 v0 none, .sc (.int .u64 v1), .sc (.int .i64 v2)] [(0, .dead), (545, .vec false 5 v3 v4)]) (Jt tau 1 Zv k) = XO f (fun x0 x1 x2 => k (Ex.exit 0) (Jd Zv N69 [.ow 5 545 [] 0 x0 none] [(0, .dead), (545, .vec false 5 x1 x2)])) n v0 v1 v2 v3 v4 | 0, _, _, _, _, _ => rfl | n + 1, v0, v1, v2, v3, v4 => (JpE f k n v0 v1 v2 v3 v4).trans (congrArg (fun r => Gw f r (fun x0 x1 x2 => k (Ex.exit 0) (Jd Zv N69 [.ow 5 545 [] 0 x0 none] [(0, .dead), (545, .vec false 5 x1 x2)])) v0 v1 v2 v3 v4) (by funext v0 v1 v2 v3 v4; exact JjT f k n v0 v1 v2 v3 v4))
def YW (f : Nat) : List PV -> List (Nat × Ent) -> Kont -> Option Res
 | [.ow 5 545 [] 0 v0 none, .sc (.int .u64 v1),
 PV.sc
  (Value.int IntKind.i64
   v2)], [(0, .dead),
 (545, .vec false 5 v3 v4)], k => XO f (fun x0 x1 x2 => k (Ex.exit 0) (Jd Zv N69 [.ow 5 545 [] 0 x0 none] [(0, .dead), (545, .vec false 5 x1 x2)])) f v0 v1 v2 v3 v4
 | _, _, _ => none
theorem JuV (f : Nat) : Je Jcc Jgp = [] := by kernel_rfl
theorem Jsp (f : Nat) : (Item.l Jcc XN N69 (YW f)).Ok tau Try.prog 1 := JI Jq Jic Jr (x := Jgp) (nm2 := Zv) (Js _ _ (by rw [JuV f]; intro q hq; cases hq)) fun vs hp k res hr => by
 unfold YW at hr
 split at hr
 · exact ⟨f, 0, (JjT f _ f _ _ _ _ _ ).trans hr⟩
 · cases hr
def Gx (f : Nat) (rc : Nat -> Int -> Bool -> List PV -> Option Res) (k0 : Nat -> Bool -> List PV -> Option Res) (v0 : Nat) (v1 : Int) (v2 : Bool) (v3 : List PV) : Option Res := bif (zi v0).tmod 64 != 56 then bif Jl (v0 + 1) 1 && true then rc (v0 + 1) v1 (v2 && false) (List.take v0 v3 ++ [.sc (.int .u8 0)]) else none else XO f (fun x0_0 x1_0 x2_0 => k0 x0_0 x1_0 x2_0) f v0 v1 (0) v2 v3
def VF (f : Nat) (k0 : Nat -> Bool -> List PV -> Option Res) : Nat -> Nat -> Int -> Bool -> List PV -> Option Res
 | 0, _, _, _, _ => none
 | n + 1, v0, v1, v2, v3 => Gx f (VF f k0 n) k0 v0 v1 v2 v3
theorem JpF (f : Nat) (k : Kont) (n v0 : Nat) (v1 : Int) (v2 : Bool) (v3 : List PV) : QV tau 1 Ys (hasLabel Gv) (fun l s k => Qd tau F69 1 0 Gv (JdB (YW f)) l s k) (n + 1) 0 (Jd Ys N69 [.ow 5 545 [] 0 v0 none, .sc (.int .u64 v1)] [(0, .dead), (545, .vec false 5 v2 v3)]) (Jt tau 1 Zw k) = Gx f (fun v0 v1 v2 v3 => QV tau 1 Ys (hasLabel Gv) (fun l s k => Qd tau F69 1 0 Gv (JdB (YW f)) l s k) n 0 (Jd Ys N69 [.ow 5 545 [] 0 v0 none, .sc (.int .u64 v1)] [(0, .dead), (545, .vec false 5 v2 v3)]) (Jt tau 1 Zw k)) (fun x0 x1 x2 => k Ex.ret (Jd Zw N69 [.ow 5 545 [] 0 x0 none] [(0, .dead), (545, .vec false 5 x1 x2)])) v0 v1 v2 v3 := by kernel_rfl
theorem JjU (f : Nat) (k : Kont) : ∀ (n v0 : Nat) (v1 : Int) (v2 : Bool) (v3 : List PV), QV tau 1 Ys (hasLabel Gv) (fun l s k => Qd tau F69 1 0 Gv (JdB (YW f)) l s k) n 0 (Jd Ys N69 [.ow 5 545 [] 0 v0 none, .sc (.int .u64 v1)] [(0, .dead), (545, .vec false 5 v2 v3)]) (Jt tau 1 Zw k) = VF f (fun x0 x1 x2 => k Ex.ret (Jd Zw N69 [.ow 5 545 [] 0 x0 none] [(0, .dead), (545, .vec false 5 x1 x2)])) n v0 v1 v2 v3 | 0, _, _, _, _ => rfl | n + 1, v0, v1, v2, v3 => (JpF f k n v0 v1 v2 v3).trans (congrArg (fun r => Gx f r (fun x0 x1 x2 => k Ex.ret (Jd Zw N69 [.ow 5 545 [] 0 x0 none] [(0, .dead), (545, .vec false 5 x1 x2)])) v0 v1 v2 v3) (by funext v0 v1 v2 v3; exact JjU f k n v0 v1 v2 v3))
def JdC (f : Nat) : Nat -> List PV -> List (Nat × Ent) -> Kont -> Option Res
 | 0, [.ow 5 545 [] 0 v0 none,
 PV.sc
  (Value.int IntKind.u64
   v1)], [(0, .dead),
 (545, .vec false 5 v2 v3)], k => VF f (fun x0 x1 x2 => k Ex.ret (Jd Zw N69 [.ow 5 545 [] 0 x0 none] [(0, .dead), (545, .vec false 5 x1 x2)])) f v0 v1 v2 v3
 | _, _, _, _ => none
theorem JuW (f : Nat) : Je Gv (JdB (YW f)) = [.l Jcc XN N69 (YW f)] := by kernel_rfl
theorem Jy6 (f : Nat) : (Item.s Gv Ys N69 (JdC f)).Ok tau Try.prog 1 := JbZ Jq Jic Jr (x := (JdB (YW f))) (nm2 := Zw) (Js _ _ (by rw [JuW f]; simp only [List.forall_mem_cons, List.not_mem_nil, false_implies, implies_true, and_true]; exact Jsp f)) fun l vs hp k res hr => by
 unfold JdC at hr
 split at hr
 · exact ⟨f, 0, (JjU f _ f _ _ _ _ ).trans hr⟩
 · cases hr
def g69 (f : Nat) (nl : Bool) (l : List PV) (n : Nat) (k : Res -> Option Res) : Option Res := bif Jl (n + 1) 1 && true then bif (zi (n + 1)).tmod 64 != 56 then bif Jl (n + 1 + 1) 1 && true then VF f (fun x0_1 x1_1 x2_1 => k (Res.mk (.ow 5 16 [] 0 x0_1 none) [.dead] [.vec false 5 x1_1 x2_1])) f (n + 1 + 1) (IntKind.u64.wrap (IntKind.u64.wrap (zi n) * 8)) (nl && false && false) (List.take (n + 1) (List.take n l ++ [.sc (.int .u8 128)]) ++ [.sc (.int .u8 0)]) else none else XO f (fun x0_2 x1_2 x2_2 => k (Res.mk (.ow 5 16 [] 0 x0_2 none) [.dead] [.vec false 5 x1_2 x2_2])) f (n + 1) (IntKind.u64.wrap (IntKind.u64.wrap (zi n) * 8)) (0) (nl && false) (List.take n l ++ [.sc (.int .u8 128)]) else none
theorem e69 (f : Nat) (nl : Bool) (l : List PV) (n : Nat) (k : Res -> Option Res) : JN tau F69 Try.f69 (Try.f69.body.get!) (JuU (JdC f) (YW f)) [] 0 [.ow 5 0 [] 0 n none] [.vec false 5 nl l] k = g69 f nl l n k := by kernel_rfl
theorem JEp (f : Nat) : Je (Try.f69.body.get!) (JuU (JdC f) (YW f)) = [.s Gv Ys N69 (JdC f), .l Jcc XN N69 (YW f)] := by kernel_rfl
theorem JEq (f : Nat) : ∀ q ∈ Je (Try.f69.body.get!) (JuU (JdC f) (YW f)), q.Ok tau Try.prog 1 := by
 rw [JEp f]; simp only [List.forall_mem_cons, List.not_mem_nil, false_implies, implies_true, and_true]; exact ⟨Jy6 f, Jsp f⟩
theorem Jy7 : Try.prog.funcs[69]? = some Try.f69 := by kernel_rfl
theorem Jy8 : Try.f69.body = some (Try.f69.body.get!) := by kernel_rfl
theorem JEr : Enters Try.prog 69 := enters_of Jy7 (by kernel_rfl) Jy8
end
end Go.Proofs.Ytcklhipdldpkhaa.Rx
