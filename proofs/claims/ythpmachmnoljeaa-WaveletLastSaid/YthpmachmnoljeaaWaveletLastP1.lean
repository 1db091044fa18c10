/- What the functions of this law compute, and their plain laws. Conditions: none. -/
import Derived.Test.YthpmachmnoljeaaProg
import Derived.KernelRfl
import Derived.Test.YthpmachmnoljeaaWaveletLastZ4
namespace Go.Proofs.Ythpmachmnoljeaa.Rx
noncomputable section
open Go
set_option linter.unusedVariables false
set_option linter.unusedSimpArgs false
set_option maxRecDepth 100000
set_option maxHeartbeats 0
def tys : List TypeId := [1, 2, 3, 4, 5, 9, 12, 21, 22, 23, 24, 25, 26, 28, 29, 30, 31, 32, 33, 34, 35, 36, 37, 38, 39, 40, 41, 42, 43, 45, 46, 47, 48, 49, 50, 51, 52, 53, 55, 56, 57, 58, 59, 60, 61, 62, 63, 64, 65, 66, 67, 68, 69, 70, 72, 73, 74, 75, 76, 77, 78, 79, 80, 81, 83, 85, 86, 87, 88, 89, 90, 91, 92, 94, 95, 96, 97, 98, 99, 100, 101, 102, 103, 104, 105, 106, 107, 109, 110, 111, 112, 113, 114, 115, 116, 117, 118, 120, 122, 123, 124, 125, 126, 128, 129, 130, 131, 132, 133, 134, 135, 136, 137, 138, 139, 140, 141, 142, 143, 144, 145, 146, 148, 149, 150, 152, 154, 155, 156, 157, 158, 159, 160, 161, 162, 163, 164, 165, 166, 167, 168, 169, 170, 171, 172, 173, 174, 175, 176, 177, 178, 179, 180, 181, 182, 183, 185, 186, 187, 188, 189, 190, 191, 192, 201]
def JAl : TypeId -> Option PV := fun t =>
 bif t == 1 then some (.sc .nilFunc) else
 bif t == 2 then some (.sc (.int .i64 0)) else
 bif t == 3 then some (.sc (.int .i64 0)) else
 bif t == 4 then some (.sc (.bool false)) else
 bif t == 5 then some (.sc (.int .u8 0)) else
 bif t == 9 then some (.sc (.string ByteArray.empty)) else
 bif t == 12 then some (.sc (.int .u64 0)) else
 bif t == 21 then some (.sc (.int .i32 0)) else
 bif t == 22 then some (.ro 69 true true []) else
 bif t == 23 then some (.sc .nilFunc) else
 bif t == 24 then some (.sc .nilFunc) else
 bif t == 25 then some (.ro 51 true true []) else
 bif t == 26 then some (.ro 58 true true []) else
 bif t == 28 then some (.sc .nilFunc) else
 bif t == 29 then some (.ro 5 true true []) else
 bif t == 30 then some (.st 30 (List.replicate 3 (.ro 5 true true []))) else
 bif t == 31 then some (.st 31 (List.replicate 3 (.ro 5 true true []))) else
 bif t == 32 then some (.sc .nilFunc) else
 bif t == 33 then some (.st 33 [.sc (.int .i64 0), .sc (.int .i64 0)]) else
 bif t == 34 then some (.st 34 [.sc (.int .i64 0), .sc (.int .i64 0)]) else
 bif t == 35 then some (.ro 42 true true []) else
 bif t == 36 then some (.ar 36 (List.replicate 32 (.sc (.int .u8 0)))) else
 bif t == 37 then some (.ar 37 (List.replicate 32 (.sc (.int .u8 0)))) else
 bif t == 38 then some (.st 38 [.st 34 [.sc (.int .i64 0), .sc (.int .i64 0)], .sc (.string ByteArray.empty), .ro 42 true true [], .sc (.int .i64 0), .ar 37 (List.replicate 32 (.sc (.int .u8 0)))]) else
 bif t == 39 then some (.st 39 [.st 34 [.sc (.int .i64 0), .sc (.int .i64 0)], .sc (.string ByteArray.empty), .ro 42 true true [], .sc (.int .i64 0), .ar 37 (List.replicate 32 (.sc (.int .u8 0)))]) else
 bif t == 40 then some (.sc .nilFunc) else
 bif t == 41 then some (.st 41 [.sc (.int .i64 0), .sc (.int .i64 0)]) else
 bif t == 42 then some (.st 42 [.sc (.int .i64 0), .sc (.int .i64 0)]) else
 bif t == 43 then some (.sc (.int .i64 0)) else
 bif t == 45 then some (.sc .nilFunc) else
 bif t == 46 then some (.st 46 [.ro 5 true true [], .ar 37 (List.replicate 32 (.sc (.int .u8 0)))]) else
 bif t == 47 then some (.st 47 [.ro 5 true true [], .ar 37 (List.replicate 32 (.sc (.int .u8 0)))]) else
 bif t == 48 then some (.ro 113 true true []) else
 bif t == 49 then some (.ro 113 true true []) else
 bif t == 50 then some (.st 50 [.st 47 [.ro 5 true true [], .ar 37 (List.replicate 32 (.sc (.int .u8 0)))], .sc (.int .i64 0), .ro 113 true true [], .ar 37 (List.replicate 32 (.sc (.int .u8 0))), .ar 37 (List.replicate 32 (.sc (.int .u8 0)))]) else
 bif t == 51 then some (.st 51 [.st 47 [.ro 5 true true [], .ar 37 (List.replicate 32 (.sc (.int .u8 0)))], .sc (.int .i64 0), .ro 113 true true [], .ar 37 (List.replicate 32 (.sc (.int .u8 0))), .ar 37 (List.replicate 32 (.sc (.int .u8 0)))]) else
 bif t == 52 then some (.st 52 [.st 42 [.sc (.int .i64 0), .sc (.int .i64 0)], .sc (.int .i64 0), .sc (.int .i64 0), .ar 37 (List.replicate 32 (.sc (.int .u8 0))), .sc (.int .i64 0), .ro 113 true true [], .st 42 [.sc (.int .i64 0), .sc (.int .i64 0)]]) else
 bif t == 53 then some (.st 53 [.st 42 [.sc (.int .i64 0), .sc (.int .i64 0)], .sc (.int .i64 0), .sc (.int .i64 0), .ar 37 (List.replicate 32 (.sc (.int .u8 0))), .sc (.int .i64 0), .ro 113 true true [], .st 42 [.sc (.int .i64 0), .sc (.int .i64 0)]]) else
 bif t == 55 then some (.sc .nilFunc) else
 bif t == 56 then some (.sc .nilFunc) else
 bif t == 57 then some (.ro 3 true true []) else
 bif t == 58 then some (.st 58 [.st 34 [.sc (.int .i64 0), .sc (.int .i64 0)], .sc (.string ByteArray.empty), .ro 42 true true [], .sc (.int .i64 0), .ar 37 (List.replicate 32 (.sc (.int .u8 0)))]) else
 bif t == 59 then some (.sc .nilFunc) else
 bif t == 60 then some (.sc .nilFunc) else
 bif t == 61 then some (.sc .nilFunc) else
 bif t == 62 then some (.sc .nilFunc) else
 bif t == 63 then some (.sc .nilFunc) else
 bif t == 64 then some (.sc .nilFunc) else
 bif t == 65 then some (.sc .nilFunc) else
 bif t == 66 then some (.sc .nilFunc) else
 bif t == 67 then some (.sc .nilFunc) else
 bif t == 68 then some (.st 68 [.sc (.int .i64 0), .sc (.int .i64 0), .sc (.int .i64 0), .ro 3 true true []]) else
 bif t == 69 then some (.st 69 [.sc (.int .i64 0), .sc (.int .i64 0), .sc (.int .i64 0), .ro 3 true true []]) else
 bif t == 70 then some (.sc .nilFunc) else
 bif t == 72 then some (.sc .nilFunc) else
 bif t == 73 then some (.sc .nilFunc) else
 bif t == 74 then some (.sc .nilFunc) else
 bif t == 75 then some (.ro 29 true true []) else
 bif t == 76 then some (.st 76 [.sc (.int .i64 0), .sc (.int .i64 0), .sc (.int .i64 0), .st 34 [.sc (.int .i64 0), .sc (.int .i64 0)], .st 42 [.sc (.int .i64 0), .sc (.int .i64 0)], .sc (.int .i64 0), .sc (.int .i64 0), .st 42 [.sc (.int .i64 0), .sc (.int .i64 0)], .sc (.int .i64 0), .sc (.int .i64 0), .ro 29 true true []]) else
 bif t == 77 then some (.st 77 [.sc (.int .i64 0), .sc (.int .i64 0), .sc (.int .i64 0), .st 34 [.sc (.int .i64 0), .sc (.int .i64 0)], .st 42 [.sc (.int .i64 0), .sc (.int .i64 0)], .sc (.int .i64 0), .sc (.int .i64 0), .st 42 [.sc (.int .i64 0), .sc (.int .i64 0)], .sc (.int .i64 0), .sc (.int .i64 0), .ro 29 true true []]) else
 bif t == 78 then some (.sc .nilFunc) else
 bif t == 79 then some (.sc .nilFunc) else
 bif t == 80 then some (.sc .nilFunc) else
 bif t == 81 then some (.sc .nilFunc) else
 bif t == 83 then some (.sc .nilFunc) else
 bif t == 85 then some (.sc .nilFunc) else
 bif t == 86 then some (.sc .nilFunc) else
 bif t == 87 then some (.sc .nilFunc) else
 bif t == 88 then some (.sc (.complex .f64 0 0)) else
 bif t == 89 then some (.sc (.float .f64 0)) else
 bif t == 90 then some (.ro 88 true true []) else
 bif t == 91 then some (.sc .nilFunc) else
 bif t == 92 then some (.sc .nilFunc) else
 bif t == 94 then some (.sc .nilFunc) else
 bif t == 95 then some (.sc .nilFunc) else
 bif t == 96 then some (.sc (.pointer none)) else
 bif t == 97 then some (.st 97 [.st 39 [.st 34 [.sc (.int .i64 0), .sc (.int .i64 0)], .sc (.string ByteArray.empty), .ro 42 true true [], .sc (.int .i64 0), .ar 37 (List.replicate 32 (.sc (.int .u8 0)))], .st 53 [.st 42 [.sc (.int .i64 0), .sc (.int .i64 0)], .sc (.int .i64 0), .sc (.int .i64 0), .ar 37 (List.replicate 32 (.sc (.int .u8 0))), .sc (.int .i64 0), .ro 113 true true [], .st 42 [.sc (.int .i64 0), .sc (.int .i64 0)]]]) else
 bif t == 98 then some (.st 98 [.st 39 [.st 34 [.sc (.int .i64 0), .sc (.int .i64 0)], .sc (.string ByteArray.empty), .ro 42 true true [], .sc (.int .i64 0), .ar 37 (List.replicate 32 (.sc (.int .u8 0)))], .st 53 [.st 42 [.sc (.int .i64 0), .sc (.int .i64 0)], .sc (.int .i64 0), .sc (.int .i64 0), .ar 37 (List.replicate 32 (.sc (.int .u8 0))), .sc (.int .i64 0), .ro 113 true true [], .st 42 [.sc (.int .i64 0), .sc (.int .i64 0)]]]) else
 bif t == 99 then some (.sc .nilFunc) else
 bif t == 100 then some (.sc .nilFunc) else
 bif t == 101 then some (.sc .nilFunc) else
 bif t == 102 then some (.sc (.pointer none)) else
 bif t == 103 then some (.sc .nilFunc) else
 bif t == 104 then some (.sc .nilFunc) else
 bif t == 105 then some (.sc .nilFunc) else
 bif t == 106 then some (.sc .nilFunc) else
 bif t == 107 then some (.sc .nilFunc) else
 bif t == 109 then some (.sc .nilFunc) else
 bif t == 110 then some (.sc .nilFunc) else
 bif t == 111 then some (.sc .nilFunc) else
 bif t == 112 then some (.st 112 [.sc (.int .i64 0), .sc (.int .i64 0), .sc (.string ByteArray.empty)]) else
 bif t == 113 then some (.st 113 [.sc (.int .i64 0), .sc (.int .i64 0), .sc (.string ByteArray.empty)]) else
 bif t == 114 then some (.sc .nilFunc) else
 bif t == 115 then some (.sc .nilFunc) else
 bif t == 116 then some (.sc .nilFunc) else
 bif t == 117 then some (.sc .nilFunc) else
 bif t == 118 then some (.sc .nilFunc) else
 bif t == 120 then some (.sc .nilFunc) else
 bif t == 122 then some (.sc .nilFunc) else
 bif t == 123 then some (.sc .nilFunc) else
 bif t == 124 then some (.sc .nilFunc) else
 bif t == 125 then some (.sc (.pointer none)) else
 bif t == 126 then some (.sc .nilFunc) else
 bif t == 128 then some (.sc .nilFunc) else
 bif t == 129 then some (.sc .nilFunc) else
 bif t == 130 then some (.sc .nilFunc) else
 bif t == 131 then some (.sc .nilFunc) else
 bif t == 132 then some (.sc .nilFunc) else
 bif t == 133 then some (.sc .nilFunc) else
 bif t == 134 then some (.st 134 [.ro 5 true true [], .sc (.int .i64 0), .sc (.int .i64 0)]) else
 bif t == 135 then some (.st 135 [.ro 5 true true [], .sc (.int .i64 0), .sc (.int .i64 0)]) else
 bif t == 136 then some (.sc .nilFunc) else
 bif t == 137 then some (.sc .nilFunc) else
 bif t == 138 then some (.sc .nilFunc) else
 bif t == 139 then some (.sc .nilFunc) else
 bif t == 140 then some (.sc (.int .u64 0)) else
 bif t == 141 then some (.sc (.int .u32 0)) else
 bif t == 142 then some (.ar 142 (List.replicate 8 (.sc (.int .u32 0)))) else
 bif t == 143 then some (.ar 143 (List.replicate 8 (.sc (.int .u32 0)))) else
 bif t == 144 then some (.sc .nilFunc) else
 bif t == 145 then some (.sc .nilFunc) else
 bif t == 146 then some (.sc .nilFunc) else
 bif t == 148 then some (.sc .nilFunc) else
 bif t == 149 then some (.sc .nilFunc) else
 bif t == 150 then some (.sc .nilFunc) else
 bif t == 152 then some (.sc .nilFunc) else
 bif t == 154 then some (.sc .nilFunc) else
 bif t == 155 then some (.sc .nilFunc) else
 bif t == 156 then some (.sc .nilFunc) else
 bif t == 157 then some (.sc .nilFunc) else
 bif t == 158 then some (.sc (.int .u64 0)) else
 bif t == 159 then some (.ar 159 (List.replicate 64 (.sc (.int .u32 0)))) else
 bif t == 160 then some (.sc .nilFunc) else
 bif t == 161 then some (.sc .nilFunc) else
 bif t == 162 then some (.sc .nilFunc) else
 bif t == 163 then some (.sc .nilFunc) else
 bif t == 164 then some (.sc .nilFunc) else
 bif t == 165 then some (.st 165 [.ro 5 true true [], .sc (.int .i64 0)]) else
 bif t == 166 then some (.st 166 [.ro 5 true true [], .sc (.int .i64 0)]) else
 bif t == 167 then some (.ro 170 true true []) else
 bif t == 168 then some (.sc .nilFunc) else
 bif t == 169 then some (.sc (.pointer none)) else
 bif t == 170 then some (.sc (.pointer none)) else
 bif t == 171 then some (.sc .nilFunc) else
 bif t == 172 then some (.sc .nilFunc) else
 bif t == 173 then some (.ar 173 (List.replicate 64 (.sc (.int .u8 0)))) else
 bif t == 174 then some (.ar 174 (List.replicate 64 (.sc (.int .u8 0)))) else
 bif t == 175 then some (.sc .nilFunc) else
 bif t == 176 then some (.sc .nilFunc) else
 bif t == 177 then some (.sc .nilFunc) else
 bif t == 178 then some (.sc .nilFunc) else
 bif t == 179 then some (.sc .nilFunc) else
 bif t == 180 then some (.sc .nilFunc) else
 bif t == 181 then some (.sc .nilFunc) else
 bif t == 182 then some (.sc .nilFunc) else
 bif t == 183 then some (.sc .nilFunc) else
 bif t == 185 then some (.sc .nilFunc) else
 bif t == 186 then some (.sc .nilFunc) else
 bif t == 187 then some (.sc .nilFunc) else
 bif t == 188 then some (.sc .nilFunc) else
 bif t == 189 then some (.sc .nilFunc) else
 bif t == 190 then some (.ro 35 true true []) else
 bif t == 191 then some (.sc .nilFunc) else
 bif t == 192 then some (.sc .nilFunc) else
 bif t == 201 then some (.sc (.pointer none)) else
 none
def tau : Tab := VX Try.prog tys JAl
theorem Jq : TabOk tau Try.prog := JkX (by kernel_rfl)
theorem Js : Try.prog.follows .mixedOrders = true := by kernel_rfl
def F0 : Fns := fun _ => none
theorem JE : Jy tau Try.prog F0 := fun g sg h => by cases h



def Ju3 : Fns := F0
theorem JnD : Jy tau Try.prog Ju3 := JE
def JiD : An := (.seq .leaf (.seq (.seq .leaf (.block none (.seq (.seq .leaf (.cond .leaf .leaf)) (.cond (.seq .leaf (.cond (.seq .leaf .leaf) .leaf)) (.seq .leaf (.cond (.seq .leaf (.cond (.seq .leaf .leaf) .leaf)) (.seq .leaf .leaf))))))) (.seq (.seq .leaf (.cond (.seq .leaf .leaf) .leaf)) (.seq .leaf .leaf))))
def JnE (f : Nat) (y0 c_N : Int) (c_S : ByteArray) (k : Res -> Option Res) : Option Res := bif y0 == 1 then bif y0 == 1 then bif decide (c_N < 1) then k (Res.mk (.sc (.int .i64 1)) [] []) else bif decide (c_N > 120) then k (Res.mk (.sc (.int .i64 1)) [] []) else bif !JaO c_S (ByteArray.mk (Array.mk [])) then k (Res.mk (.sc (.int .i64 1)) [] []) else bif decide (zi c_S.size > 120) then k (Res.mk (.sc (.int .i64 5)) [] []) else k (Res.mk (.sc (.int .i64 0)) [] []) else bif y0 == 2 then bif c_N != 0 then k (Res.mk (.sc (.int .i64 1)) [] []) else bif JaO c_S (ByteArray.mk (Array.mk [])) then k (Res.mk (.sc (.int .i64 1)) [] []) else bif decide (zi c_S.size > 120) then k (Res.mk (.sc (.int .i64 5)) [] []) else k (Res.mk (.sc (.int .i64 0)) [] []) else k (Res.mk (.sc (.int .i64 3)) [] []) else bif y0 == 3 then bif decide (c_N < 1) then k (Res.mk (.sc (.int .i64 1)) [] []) else bif decide (c_N > 120) then k (Res.mk (.sc (.int .i64 1)) [] []) else bif !JaO c_S (ByteArray.mk (Array.mk [])) then k (Res.mk (.sc (.int .i64 1)) [] []) else bif decide (zi c_S.size > 120) then k (Res.mk (.sc (.int .i64 5)) [] []) else k (Res.mk (.sc (.int .i64 0)) [] []) else bif y0 == 2 then bif c_N != 0 then k (Res.mk (.sc (.int .i64 1)) [] []) else bif JaO c_S (ByteArray.mk (Array.mk [])) then k (Res.mk (.sc (.int .i64 1)) [] []) else bif decide (zi c_S.size > 120) then k (Res.mk (.sc (.int .i64 5)) [] []) else k (Res.mk (.sc (.int .i64 0)) [] []) else k (Res.mk (.sc (.int .i64 3)) [] [])
theorem JAm (f : Nat) (y0 c_N : Int) (c_S : ByteArray) (k : Res -> Option Res) : JL tau Ju3 Try.f124 (Try.f124.body.get!) JiD [.ro] 0 [.st 113 [.sc (.int .i64 y0), .sc (.int .i64 c_N), .sc (.string c_S)]] [] k = JnE f y0 c_N c_S k := by kernel_rfl
theorem Ju4 (f : Nat) : Je (Try.f124.body.get!) JiD = [] := by kernel_rfl
theorem Ju5 (f : Nat) : ∀ q ∈ Je (Try.f124.body.get!) JiD, q.Ok tau Try.prog 0 := by
 rw [Ju4 f]; intro q hq; cases hq
theorem Jqe : Try.prog.funcs[124]? = some Try.f124 := by kernel_rfl
theorem Jqf : Try.f124.body = some (Try.f124.body.get!) := by kernel_rfl
theorem Ju6 : Enters Try.prog 124 := enters_of Jqe (by kernel_rfl) Jqf
def Jg2 : List PV -> List Ent -> (Res -> Option Res) -> Option Res
 | [.st 113 [.sc (.int .i64 y0), .sc (.int .i64 c_N), .sc (.string c_S)]], [], k => JnE 0 y0 c_N c_S k
 | _, _, _ => none
def JAn : Sig := { own := [], run := Jg2 }
theorem Ju7 : Jh tau Try.prog 124 JAn := JY Jq JnD Js Jqe Jqf JiD [.ro] 0 [] Jg2 (Ju5 0) fun xs es k res hr => by
 unfold Jg2 at hr
 split at hr
 · exact ⟨rfl, 0, (JAm 0 _ _ _  _).trans hr⟩
 · cases hr

-- FN op.check | ref4.check
structure CV where
 (kd n : Int) (s : ByteArray)
def Jft (c : CV) : Int :=
 bif c.kd == 1 || c.kd == 3 then (bif decide (c.n < 1) || (decide (c.n > 120) || !(c.s.size == 0)) then 1 else 0)
 else bif c.kd == 2 then (bif !(c.n == 0) || c.s.size == 0 then 1 else bif decide (zi c.s.size > 120) then 5 else 0) else 3
def ckC : CV -> Int := hid Jft
theorem YY (c : CV) : ckC c = Jft c := by rw [ckC, hid_eq]
theorem Jk1 (s : ByteArray) : JaO s (ByteArray.mk (Array.mk [])) = (s.size == 0) := by
 rw [JnF]
 cases h : (s.size == 0) with
 | true =>
  have hs : s.size = 0 := by simpa using h
  refine decide_eq_true (ByteArray.ext (Array.eq_empty_of_size_eq_zero hs))
 | false =>
  refine decide_eq_false fun he => ?_
  rw [he] at h
  exact absurd h (by decide)
theorem JnG (kd n : Int) (s : ByteArray) (k : Res -> Option Res) : JnE 0 kd n s k = k ⟨.sc (.int .i64 (ckC ⟨kd, n, s⟩)), [], []⟩ := by
 rw [YY]
 unfold JnE Jft
 simp only [Jk1, bne]
 have hcomb : (s.size == 0) = true -> decide (zi s.size > 120) = false := fun h => by
  have : s.size = 0 := by simpa using h
  rw [this]; decide
 generalize (s.size == 0) = e0 at *
 generalize decide (zi s.size > 120) = e1 at *
 generalize decide (n < 1) = a
 generalize decide (n > 120) = b
 generalize (n == 0) = c
 generalize (kd == 1) = d1
 generalize (kd == 2) = d2
 generalize (kd == 3) = d3
 cases d1 <;> cases d3 <;> cases d2 <;> cases e0 <;> cases e1 <;> cases a <;> cases b <;> cases c <;> first | rfl | exact absurd (hcomb rfl) (by decide)
def Jd6 : List PV -> List Ent -> (Res -> Option Res) -> Option Res
 | [.st 113 [.sc (.int .i64 kd), .sc (.int .i64 n), .sc (.string s)]], [], k => k ⟨.sc (.int .i64 (ckC ⟨kd, n, s⟩)), [], []⟩
 | _, _, _ => none
def Jqg : Sig := { own := [], run := Jd6 }
theorem Jsb : Jh tau Try.prog 124 Jqg := Ju7.of fun xs es k res hr => by
 change Jd6 xs es k = some res at hr
 unfold Jd6 at hr
 split at hr
 · rename_i kd n s
   exact (JnG kd n s k).trans hr
 · cases hr
def N88 : Nat := 21
def F88 : Fns := JH 124 Jqg (F0)
theorem Jk2 : Jy tau Try.prog F88 := (JE).add Jsb Ju6
def JcV : Code := Qn (Try.f88.body.get!) [1, 1, 0, 1, 0, 0]
def X4 : Nm := [(9, .any), (10, .any), (11, .any)]
def Wr : Nm := [(2, .any)]
def Jfu : An := (.seq .leaf (.seq (.cond .leaf .leaf) (.seq (.block none (.seq .leaf (.seq .leaf (.seq .leaf (.cond (.seq .leaf .leaf) .leaf))))) .leaf)))
def JnH (r0 : QV) : An := (.seq .leaf (.seq (.seq .leaf (.cond (.seq .leaf .leaf) .leaf)) (.seq (.seq .leaf (.block none (.sum X4 N88 r0))) (.seq .leaf .leaf))))
def VY (f : Nat) (rc : Bool -> Bool -> List PV -> Int -> Int -> Option Res) (k0 : Int -> Option Res) (k1 : Option Res) (v0 v1 : Bool) (v2 : List PV) (v3 v4 : Int) : Option Res := bif decide (v4 < v3) then bif decide (0 <= v4) && decide (v4 < zi v2.length) && (PV.isSt 113 #[Field.mk "Kind" 3 0 false "" "" 0, Field.mk "N" 3 1 false "" "" 8, Field.mk "S" 9 2 false "" "" 16].size (v2.getD v4.toNat PV.top) && (PV.isInt IntKind.i64 (PV.child 0 (v2.getD v4.toNat PV.top)) && (PV.isInt IntKind.i64 (PV.child (0 + 1) (v2.getD v4.toNat PV.top)) && ((PV.child (0 + 1 + 1) (v2.getD v4.toNat PV.top)).isStr && true)))) && true then bif ckC (CV.mk (PV.child 0 (v2.getD v4.toNat PV.top)).int (PV.child (0 + 1) (v2.getD v4.toNat PV.top)).int (PV.child (0 + 1 + 1) (v2.getD v4.toNat PV.top)).str) != 0 then k0 (ckC (CV.mk (PV.child 0 (v2.getD v4.toNat PV.top)).int (PV.child (0 + 1) (v2.getD v4.toNat PV.top)).int (PV.child (0 + 1 + 1) (v2.getD v4.toNat PV.top)).str)) else rc v0 v1 v2 v3 (IntKind.i64.wrap (v4 + 1)) else none else k1
def Vh (f : Nat) (k0 : Int -> Option Res) (k1 : Option Res) : Nat -> Bool -> Bool -> List PV -> Int -> Int -> Option Res
 | 0, _, _, _, _, _ => none
 | n + 1, v0, v1, v2, v3, v4 => VY f (Vh f k0 k1 n) k0 k1 v0 v1 v2 v3 v4
theorem JnI (f : Nat) (k : Kont) (n : Nat) (v0 v1 : Bool) (v2 : List PV) (v3 v4 : Int) : Jp tau 0 X4 (fun s k => ev tau F88 0 0 JcV (Jfu ) s k) (n + 1) (Jc X4 N88 [.ro 113 v0 v1 v2, .sc (.int .i64 v3), .sc (.int .i64 v4)] []) (Jt tau 0 Wr k) = VY f (fun v0 v1 v2 v3 v4 => Jp tau 0 X4 (fun s k => ev tau F88 0 0 JcV (Jfu ) s k) n (Jc X4 N88 [.ro 113 v0 v1 v2, .sc (.int .i64 v3), .sc (.int .i64 v4)] []) (Jt tau 0 Wr k)) (fun x0 => k Ex.ret (Jc Wr N88 [.sc (.int .i64 x0)] [])) (k (Ex.exit 0) (Jc Wr N88 [PV.top] [])) v0 v1 v2 v3 v4 := by kernel_rfl
theorem JiE (f : Nat) (k : Kont) : ∀ (n : Nat) (v0 v1 : Bool) (v2 : List PV) (v3 v4 : Int), Jp tau 0 X4 (fun s k => ev tau F88 0 0 JcV (Jfu ) s k) n (Jc X4 N88 [.ro 113 v0 v1 v2, .sc (.int .i64 v3), .sc (.int .i64 v4)] []) (Jt tau 0 Wr k) = Vh f (fun x0 => k Ex.ret (Jc Wr N88 [.sc (.int .i64 x0)] [])) (k (Ex.exit 0) (Jc Wr N88 [PV.top] [])) n v0 v1 v2 v3 v4 | 0, _, _, _, _, _ => rfl | n + 1, v0, v1, v2, v3, v4 => (JnI f k n v0 v1 v2 v3 v4).trans (congrArg (fun r => VY f r (fun x0 => k Ex.ret (Jc Wr N88 [.sc (.int .i64 x0)] [])) (k (Ex.exit 0) (Jc Wr N88 [PV.top] [])) v0 v1 v2 v3 v4) (by funext v0 v1 v2 v3 v4; exact JiE f k n v0 v1 v2 v3 v4))
def JbG (f : Nat) : List PV -> List (Nat × Ent) -> Kont -> Option Res
 | [.ro 113 v0 v1 v2, .sc (.int .i64 v3),
 .sc (.int .i64 v4)], [], k => Vh f (fun x0 => k Ex.ret (Jc Wr N88 [.sc (.int .i64 x0)] [])) (k (Ex.exit 0) (Jc Wr N88 [PV.top] [])) f v0 v1 v2 v3 v4
 | _, _, _ => none
theorem Jsc (f : Nat) : Je JcV Jfu = [] := by kernel_rfl
theorem Jsd (f : Nat) : (Item.l JcV X4 N88 (JbG f)).Ok tau Try.prog 0 := JJ Jq Jk2 Js (x := Jfu) (nm2 := Wr) (Jl _ _ (by rw [Jsc f]; intro q hq; cases hq)) fun vs hp k res hr => by
 unfold JbG at hr
 split at hr
 · exact ⟨f, 0, (JiE f _ f _ _ _ _ _ ).trans hr⟩
 · cases hr
def g88 (f : Nat) (o_z o_f : Bool) (o : List PV) (k : Res -> Option Res) : Option Res := bif decide (zi o.length > 40) then k (Res.mk (.sc (.int .i64 4)) [] []) else Vh f (fun x0_0 => k (Res.mk (.sc (.int .i64 x0_0)) [] [])) (k (Res.mk (.sc (.int .i64 0)) [] [])) f o_z o_f o (zi o.length) (0)
theorem e88 (f : Nat) (o_z o_f : Bool) (o : List PV) (k : Res -> Option Res) : JL tau F88 Try.f88 (Try.f88.body.get!) (JnH (JbG f)) [.ro] 0 [.ro 113 o_z o_f o] [] k = g88 f o_z o_f o k := by kernel_rfl
theorem JAo (f : Nat) : Je (Try.f88.body.get!) (JnH (JbG f)) = [.l JcV X4 N88 (JbG f)] := by kernel_rfl
theorem JAp (f : Nat) : ∀ q ∈ Je (Try.f88.body.get!) (JnH (JbG f)), q.Ok tau Try.prog 0 := by
 rw [JAo f]; simp only [List.forall_mem_cons, List.not_mem_nil, false_implies, implies_true, and_true]; exact Jsd f
theorem Ju8 : Try.prog.funcs[88]? = some Try.f88 := by kernel_rfl
theorem Ju9 : Try.f88.body = some (Try.f88.body.get!) := by kernel_rfl
theorem Jse : Enters Try.prog 88 := enters_of Ju8 (by kernel_rfl) Ju9

-- FN op.Check | ref4.Check | law4.Few
def isCp : PV -> Bool
 | .st t [.sc (.int .i64 _), .sc (.int .i64 _), .sc (.string _)] => t == 113
 | _ => false
theorem JbH {p : PV} : isCp p = true ↔ ∃ kd n s, p = .st 113 [.sc (.int .i64 kd), .sc (.int .i64 n), .sc (.string s)] := by
 constructor
 · intro h
   unfold isCp at h
   split at h
   · rename_i t kd n s
     obtain rfl : t = 113 := by simpa using h
     exact ⟨kd, n, s, rfl⟩
   · cases h
 · rintro ⟨kd, n, s, rfl⟩; rfl
def cv (p : PV) : CV := ⟨(p.child 0).int, (p.child 1).int, (p.child 2).str⟩
theorem XM {p : PV} (h : isCp p = true) : (PV.isSt 113 #[Field.mk "Kind" 3 0 false "" "" 0, Field.mk "N" 3 1 false "" "" 8, Field.mk "S" 9 2 false "" "" 16].size p && (PV.isInt IntKind.i64 (PV.child 0 p) && (PV.isInt IntKind.i64 (PV.child (0 + 1) p) && ((PV.child (0 + 1 + 1) p).isStr && true)))) = true := by
 obtain ⟨kd, n, s, rfl⟩ := JbH.1 h
 simp [PV.isSt, PV.child, PV.isInt, PV.isStr]
theorem WU {l : List PV} (h : l.all isCp = true) {i : Nat} (hi : i < l.length) : isCp (l.getD i .top) = true := by
 rw [List.getD_eq_getElem?_getD, List.getElem?_eq_getElem hi]
 exact List.all_eq_true.1 h _ (List.getElem_mem hi)
def ckL : List PV -> Int
 | [] => 0
 | p :: r => bif ckC (cv p) == 0 then ckL r else ckC (cv p)
def Jg3 (l : List PV) : Int := bif decide (zi l.length > 40) then 4 else ckL l
def ckO : List PV -> Int := hid Jg3
theorem GU (l : List PV) : ckO l = Jg3 l := by rw [ckO, hid_eq]
def cOk : List PV -> Bool := hid fun l => l.all isCp && Nat.ble l.length 9223372036854775807
theorem Ww {l : List PV} : cOk l = true ↔ l.all isCp = true /\ l.length <= 9223372036854775807 := by
 rw [cOk, hid_eq, Bool.and_eq_true, Nat.ble_eq]
theorem Q9 {l : List PV} {i : Nat} (h : i < l.length) : l.drop i = l.getD i .top :: l.drop (i + 1) := by
 rw [List.drop_eq_getElem_cons h]; simp [List.getD_eq_getElem?_getD, h]
theorem Jqh (l : List PV) (h1 : l.all isCp = true) (h2 : l.length <= 40) (f : Nat) (k0 : Int -> Option Res) (k1 : Option Res) (z fl : Bool) : ∀ (d i n : Nat), i + d = l.length -> d < n ->
  Vh f k0 k1 n z fl l (zi l.length) (i : Int) = bif ckL (l.drop i) == 0 then k1 else k0 (ckL (l.drop i))
 | 0, i, n + 1, hi, hn => by
   rw [List.drop_of_length_le (by omega)]
   simp only [Vh, VY]
   exact Jj (by simp [zi]; omega)
 | d + 1, i, n + 1, hi, hn => by
   have g1 : ((i : Int)).toNat = i := by omega
   have w1 : IntKind.i64.wrap ((i : Int) + 1) = ((i + 1 : Nat) : Int) := by rw [wrap_i64 (by omega) (by omega)]; omega
   have hro : (decide (0 <= (i : Int)) && decide ((i : Int) < zi l.length) && (PV.isSt 113 #[Field.mk "Kind" 3 0 false "" "" 0, Field.mk "N" 3 1 false "" "" 8, Field.mk "S" 9 2 false "" "" 16].size (l.getD i PV.top) && (PV.isInt IntKind.i64 (PV.child 0 (l.getD i PV.top)) && (PV.isInt IntKind.i64 (PV.child (0 + 1) (l.getD i PV.top)) && ((PV.child (0 + 1 + 1) (l.getD i PV.top)).isStr && true)))) && true) = true := by
    have hq : (PV.isSt 113 #[Field.mk "Kind" 3 0 false "" "" 0, Field.mk "N" 3 1 false "" "" 8, Field.mk "S" 9 2 false "" "" 16].size (l.getD i PV.top) && (PV.isInt IntKind.i64 (PV.child 0 (l.getD i PV.top)) && (PV.isInt IntKind.i64 (PV.child (0 + 1) (l.getD i PV.top)) && ((PV.child (0 + 1 + 1) (l.getD i PV.top)).isStr && true)))) = true := XM (WU h1 (by omega))
    rw [hq]; simp [zi]; omega
   have hd := Q9 (l := l) (i := i) (by omega)
   have hs : CV.mk (PV.child 0 (l.getD i PV.top)).int (PV.child (0 + 1) (l.getD i PV.top)).int (PV.child (0 + 1 + 1) (l.getD i PV.top)).str = cv (l.getD i .top) := rfl
   simp only [Vh, VY, g1, w1, hs]
   refine (Ja (by simp [zi]; omega)).trans ((Ja hro).trans ?_)
   rw [hd]
   cases hc : (ckC (cv (l.getD i .top)) == 0) with
   | true =>
    refine (Jj (by simp only [bne, hc]; rfl)).trans ?_
    rw [Jqh l h1 h2 f k0 k1 z fl d (i + 1) n (by omega) (by omega)]
    simp only [ckL, hc, cond_true]
   | false =>
    refine (Ja (by simp only [bne, hc]; rfl)).trans ?_
    simp only [ckL, hc, cond_false]
def Jg4 : List PV -> List Ent -> (Res -> Option Res) -> Option Res
 | [.ro 113 z f l], [], k => bif cOk l then k ⟨.sc (.int .i64 (ckO l)), [], []⟩ else none
 | _, _, _ => none
def JnJ : Sig := { own := [], run := Jg4 }
theorem Jsf (z f : Bool) (l : List PV) (h : cOk l = true) (k : Res -> Option Res) : g88 50 z f l k = k ⟨.sc (.int .i64 (ckO l)), [], []⟩ := by
 obtain ⟨h1, h2⟩ := Ww.1 h
 rw [GU]
 unfold g88 Jg3
 cases hc : decide (zi l.length > 40) with
 | true => rfl
 | false =>
  have hl : l.length <= 40 := by simp only [zi, decide_eq_false_iff_not] at hc; omega
  rw [cond_false, cond_false]
  refine (Jqh l h1 hl 50 _ _ z f l.length 0 50 (by omega) (by omega)).trans ?_
  rw [List.drop_zero]
  cases h0 : (ckL l == 0) with
  | true =>
   have : ckL l = 0 := by simpa using h0
   rw [this]; rfl
  | false => rfl
theorem Jk3 : Jh tau Try.prog 88 JnJ := Jh.mk' fun xs es k res hl hr => by
 change Jg4 xs es k = some res at hr
 unfold Jg4 at hr
 split at hr
 · rename_i z f l
   obtain ⟨hc, hr⟩ := JI hr
   exact Qj Jq Jk2 Js Ju8 Ju9 (JnH (JbG 50)) [.ro] 0 0 (JAp 50) hl rfl ((e88 50 z f l k).trans ((Jsf z f l hc k).trans hr))
 · cases hr




-- FN ref16.domain | ref16.Wave | ref16.number | ref8.User
def inZ (x m : Int) : Bool := decide (x >= 0) && decide (x <= m)
def JnK : List Int -> Bool
 | x :: m :: r => inZ x m && JnK r
 | _ => true
def inA : List Int -> Bool := hid JnK
theorem Jsg (l : List Int) : inA l = JnK l := by rw [inA, hid_eq]
theorem Jk4 (a b c d : Int) : inA [a, b, c, d] = (inZ a b && inZ c d) := by rw [Jsg]; simp [JnK]
def Jva : Fns := F0
theorem JnL : Jy tau Try.prog Jva := JE
def JiF : An := (.seq .leaf (.seq .leaf .leaf))
def Jvb (f : Nat) (n most : Int) (k : Res -> Option Res) : Option Res := bif decide (n >= 0) then k (Res.mk (.sc (.bool (decide (n <= most)))) [] []) else k (Res.mk (.sc (.bool false)) [] [])
theorem JAq (f : Nat) (n most : Int) (k : Res -> Option Res) : JL tau Jva Try.f122 (Try.f122.body.get!) JiF [.ro] 0 [.sc (.int .i64 n), .sc (.int .i64 most)] [] k = Jvb f n most k := by kernel_rfl
theorem Jvc (f : Nat) : Je (Try.f122.body.get!) JiF = [] := by kernel_rfl
theorem Jvd (f : Nat) : ∀ q ∈ Je (Try.f122.body.get!) JiF, q.Ok tau Try.prog 0 := by
 rw [Jvc f]; intro q hq; cases hq
theorem Jqi : Try.prog.funcs[122]? = some Try.f122 := by kernel_rfl
theorem Jqj : Try.f122.body = some (Try.f122.body.get!) := by kernel_rfl
theorem Jqk : Enters Try.prog 122 := enters_of Jqi (by kernel_rfl) Jqj
def Jg5 : List PV -> List Ent -> (Res -> Option Res) -> Option Res
 | [.sc (.int .i64 n), .sc (.int .i64 most)], [], k => Jvb 0 n most k
 | _, _, _ => none
def Jsh : Sig := { own := [], run := Jg5 }
theorem Jql : Jh tau Try.prog 122 Jsh := JY Jq JnL Js Jqi Jqj JiF [.ro] 0 [] Jg5 (Jvd 0) fun xs es k res hr => by
 unfold Jg5 at hr
 split at hr
 · exact ⟨rfl, 0, (JAq 0 _ _  _).trans hr⟩
 · cases hr
def Jve : Fns := JH 122 Jsh (F0)
theorem JnM : Jy tau Try.prog Jve := (JE).add Jql Jqk
def JiG : An := (.seq .leaf (.seq .leaf .leaf))
def Jvf (f : Nat) (a_D a_U : Int) (k : Res -> Option Res) : Option Res := bif decide (a_D >= 0) then bif decide (a_D <= 2) then bif decide (a_U >= 0) then k (Res.mk (.sc (.bool (decide (a_U <= 7)))) [] []) else k (Res.mk (.sc (.bool false)) [] []) else k (Res.mk (.sc (.bool false)) [] []) else k (Res.mk (.sc (.bool false)) [] [])
theorem JAr (f : Nat) (a_D a_U : Int) (k : Res -> Option Res) : JL tau Jve Try.f121 (Try.f121.body.get!) JiG [.ro] 0 [.st 42 [.sc (.int .i64 a_D), .sc (.int .i64 a_U)]] [] k = Jvf f a_D a_U k := by kernel_rfl
theorem Jvg (f : Nat) : Je (Try.f121.body.get!) JiG = [] := by kernel_rfl
theorem Jvh (f : Nat) : ∀ q ∈ Je (Try.f121.body.get!) JiG, q.Ok tau Try.prog 0 := by
 rw [Jvg f]; intro q hq; cases hq
theorem Jqm : Try.prog.funcs[121]? = some Try.f121 := by kernel_rfl
theorem Jqn : Try.f121.body = some (Try.f121.body.get!) := by kernel_rfl
theorem Jvi : Enters Try.prog 121 := enters_of Jqm (by kernel_rfl) Jqn
def Jg6 : List PV -> List Ent -> (Res -> Option Res) -> Option Res
 | [.st 42 [.sc (.int .i64 a_D), .sc (.int .i64 a_U)]], [], k => Jvf 0 a_D a_U k
 | _, _, _ => none
def Jvj : Sig := { own := [], run := Jg6 }
theorem Jvk : Jh tau Try.prog 121 Jvj := JY Jq JnM Js Jqm Jqn JiG [.ro] 0 [] Jg6 (Jvh 0) fun xs es k res hr => by
 unfold Jg6 at hr
 split at hr
 · exact ⟨rfl, 0, (JAr 0 _ _  _).trans hr⟩
 · cases hr
def F85 : Fns := JH 122 Jsh (JH 121 Jvj (JH 88 JnJ (F0)))
theorem Jsi : Jy tau Try.prog F85 := (((JE).add Jk3 Jse).add Jvk Jvi).add Jql Jqk
def JnN : An := (.seq .leaf (.seq (.seq .leaf (.cond (.seq .leaf .leaf) .leaf)) (.seq (.seq .leaf (.block none (.seq .leaf (.cond (.seq (.seq .leaf (.seq .leaf (.cond (.seq .leaf .leaf) .leaf))) (.seq .leaf (.cond (.seq .leaf .leaf) .leaf))) (.seq (.seq .leaf (.cond .leaf .leaf)) (.cond (.seq .leaf (.cond (.seq .leaf .leaf) .leaf)) (.seq .leaf .leaf))))))) (.seq .leaf .leaf))))
def g85 (f : Nat) (y0 y1 d_Id y2 : Int) (y3 : List PV) (y4 : Int) (y5 y6 : Bool) (d_Op : List PV) (y7 y8 : Int) (k : Res -> Option Res) : Option Res := bif decide (y0 >= 0) then bif decide (y0 <= 2) then bif decide (y1 >= 0) then bif !decide (y1 <= 7) then k (Res.mk (.sc (.int .i64 1)) [] []) else bif decide (d_Id >= 0) then bif !decide (d_Id <= 1073741824) then k (Res.mk (.sc (.int .i64 1)) [] []) else bif decide (y2 >= 0) then bif !decide (y2 <= 1048576) then k (Res.mk (.sc (.int .i64 1)) [] []) else bif y4 == 1 then bif cOk d_Op then bif ckO d_Op != 0 then k (Res.mk (.sc (.int .i64 (ckO d_Op))) [] []) else bif !(y7 == 0 && (y8 == 0 && true)) then k (Res.mk (.sc (.int .i64 1)) [] []) else k (Res.mk (.sc (.int .i64 0)) [] []) else none else bif y4 == 2 then bif y4 == 2 then bif decide (zi d_Op.length > 0) then k (Res.mk (.sc (.int .i64 1)) [] []) else bif decide (y7 >= 0) then bif decide (y7 <= 2) then bif decide (y8 >= 0) then bif !decide (y8 <= 7) then k (Res.mk (.sc (.int .i64 1)) [] []) else k (Res.mk (.sc (.int .i64 0)) [] []) else k (Res.mk (.sc (.int .i64 1)) [] []) else k (Res.mk (.sc (.int .i64 1)) [] []) else k (Res.mk (.sc (.int .i64 1)) [] []) else k (Res.mk (.sc (.int .i64 3)) [] []) else bif y4 == 3 then bif decide (zi d_Op.length > 0) then k (Res.mk (.sc (.int .i64 1)) [] []) else bif decide (y7 >= 0) then bif decide (y7 <= 2) then bif decide (y8 >= 0) then bif !decide (y8 <= 7) then k (Res.mk (.sc (.int .i64 1)) [] []) else k (Res.mk (.sc (.int .i64 0)) [] []) else k (Res.mk (.sc (.int .i64 1)) [] []) else k (Res.mk (.sc (.int .i64 1)) [] []) else k (Res.mk (.sc (.int .i64 1)) [] []) else k (Res.mk (.sc (.int .i64 3)) [] []) else k (Res.mk (.sc (.int .i64 1)) [] []) else k (Res.mk (.sc (.int .i64 1)) [] []) else k (Res.mk (.sc (.int .i64 1)) [] []) else k (Res.mk (.sc (.int .i64 1)) [] []) else k (Res.mk (.sc (.int .i64 1)) [] [])
theorem e85 (f : Nat) (y0 y1 d_Id y2 : Int) (y3 : List PV) (y4 : Int) (y5 y6 : Bool) (d_Op : List PV) (y7 y8 : Int) (k : Res -> Option Res) : JL tau F85 Try.f85 (Try.f85.body.get!) JnN [.ro] 0 [.st 53 [.st 42 [.sc (.int .i64 y0), .sc (.int .i64 y1)], .sc (.int .i64 d_Id), .sc (.int .i64 y2), .ar 37 y3, .sc (.int .i64 y4), .ro 113 y5 y6 d_Op, .st 42 [.sc (.int .i64 y7), .sc (.int .i64 y8)]]] [] k = g85 f y0 y1 d_Id y2 y3 y4 y5 y6 d_Op y7 y8 k := by kernel_rfl
theorem JAs (f : Nat) : Je (Try.f85.body.get!) JnN = [] := by kernel_rfl
theorem JAt (f : Nat) : ∀ q ∈ Je (Try.f85.body.get!) JnN, q.Ok tau Try.prog 0 := by
 rw [JAs f]; intro q hq; cases hq
theorem Jvl : Try.prog.funcs[85]? = some Try.f85 := by kernel_rfl
theorem Jvm : Try.f85.body = some (Try.f85.body.get!) := by kernel_rfl
theorem JAu : Enters Try.prog 85 := enters_of Jvl (by kernel_rfl) Jvm
def Jk5 : List PV -> List Ent -> (Res -> Option Res) -> Option Res
 | [.st 53 [.st 42 [.sc (.int .i64 y0), .sc (.int .i64 y1)], .sc (.int .i64 d_Id), .sc (.int .i64 y2), .ar 37 y3, .sc (.int .i64 y4), .ro 113 y5 y6 d_Op, .st 42 [.sc (.int .i64 y7), .sc (.int .i64 y8)]]], [], k => g85 0 y0 y1 d_Id y2 y3 y4 y5 y6 d_Op y7 y8 k
 | _, _, _ => none
def s85 : Sig := { own := [], run := Jk5 }
theorem JAv : Jh tau Try.prog 85 s85 := JY Jq Jsi Js Jvl Jvm JnN [.ro] 0 [] Jk5 (JAt 0) fun xs es k res hr => by
 unfold Jk5 at hr
 split at hr
 · exact ⟨rfl, 0, (e85 0 _ _ _ _ _ _ _ _ _ _ _  _).trans hr⟩
 · cases hr






def Jvn : Fns := F0
theorem JnO : Jy tau Try.prog Jvn := JE
def JiH : An := (.seq .leaf (.cond .leaf .leaf))
def Jvo (f : Nat) (y0 y1 : Bool) (r_b : List PV) (r_e e : Int) (k : Res -> Option Res) : Option Res := bif r_e == 0 then k (Res.mk (.tup []) [.box false 166 (PV.st 166 [.ro 5 y0 y1 r_b, .sc (.int .i64 e)])] []) else k (Res.mk (.tup []) [.box false 166 (PV.st 166 [.ro 5 y0 y1 r_b, .sc (.int .i64 r_e)])] [])
theorem JAw (f : Nat) (y0 y1 : Bool) (r_b : List PV) (r_e e : Int) (k : Res -> Option Res) : JL tau Jvn Try.f107 (Try.f107.body.get!) JiH [] 0 [.ptr 0 [], .sc (.int .i64 e)] [.box false 166 (.st 166 [.ro 5 y0 y1 r_b, .sc (.int .i64 r_e)])] k = Jvo f y0 y1 r_b r_e e k := by kernel_rfl
theorem Jvp (f : Nat) : Je (Try.f107.body.get!) JiH = [] := by kernel_rfl
theorem Jvq (f : Nat) : ∀ q ∈ Je (Try.f107.body.get!) JiH, q.Ok tau Try.prog 1 := by
 rw [Jvp f]; intro q hq; cases hq
theorem Jqo : Try.prog.funcs[107]? = some Try.f107 := by kernel_rfl
theorem Jqp : Try.f107.body = some (Try.f107.body.get!) := by kernel_rfl
theorem Jqq : Enters Try.prog 107 := enters_of Jqo (by kernel_rfl) Jqp
def Jg7 : List PV -> List Ent -> (Res -> Option Res) -> Option Res
 | [.ptr 0 [], .sc (.int .i64 e)], [.box false 166 (.st 166 [.ro 5 y0 y1 r_b, .sc (.int .i64 r_e)])], k => Jvo 0 y0 y1 r_b r_e e k
 | _, _, _ => none
def Jsj : Sig := { own := [], run := Jg7 }
theorem Jqr : Jh tau Try.prog 107 Jsj := JY Jq JnO Js Jqo Jqp JiH [] 1 [] Jg7 (Jvq 0) fun xs es k res hr => by
 unfold Jg7 at hr
 split at hr
 · exact ⟨rfl, 0, (JAw 0 _ _ _ _ _  _).trans hr⟩
 · cases hr
def Jvr : Fns := JH 107 Jsj (F0)
theorem JnP : Jy tau Try.prog Jvr := (JE).add Jqr Jqq
def JiI : An := (.seq .leaf (.seq (.seq .leaf (.cond .leaf .leaf)) (.seq (.seq .leaf (.cond (.seq .leaf .leaf) .leaf)) (.seq .leaf (.seq .leaf (.seq .leaf .leaf))))))
def JnQ (f : Nat) (y0 y1 : Bool) (r_b : List PV) (r_e n : Int) (k : Res -> Option Res) : Option Res := bif decide (n > zi r_b.length) then bif r_e == 0 then k (Res.mk (.ro 5 true true []) [.box false 166 (PV.st 166 [.ro 5 y0 y1 r_b, .sc (.int .i64 8)])] []) else bif r_e != 0 then k (Res.mk (.ro 5 true true []) [.box false 166 (PV.st 166 [.ro 5 y0 y1 r_b, .sc (.int .i64 r_e)])] []) else bif decide (0 <= n) && true && decide (n.toNat <= r_b.length) && true then bif decide (0 <= n) && true && decide (n.toNat <= r_b.length) && decide (r_b.length <= r_b.length) && true then k (Res.mk (.ro 5 y0 (y0 || y1 && false) (List.take n.toNat r_b)) [.box false 166 (PV.st 166 [.ro 5 y0 (y0 || y1 && true) (List.drop n.toNat (List.take r_b.length r_b)), .sc (.int .i64 r_e)])] []) else none else none else bif r_e != 0 then k (Res.mk (.ro 5 true true []) [.box false 166 (PV.st 166 [.ro 5 y0 y1 r_b, .sc (.int .i64 r_e)])] []) else bif decide (0 <= n) && true && decide (n.toNat <= r_b.length) && true then bif decide (0 <= n) && true && decide (n.toNat <= r_b.length) && decide (r_b.length <= r_b.length) && true then k (Res.mk (.ro 5 y0 (y0 || y1 && false) (List.take n.toNat r_b)) [.box false 166 (PV.st 166 [.ro 5 y0 (y0 || y1 && true) (List.drop n.toNat (List.take r_b.length r_b)), .sc (.int .i64 r_e)])] []) else none else none
theorem JAx (f : Nat) (y0 y1 : Bool) (r_b : List PV) (r_e n : Int) (k : Res -> Option Res) : JL tau Jvr Try.f119 (Try.f119.body.get!) JiI [.ro] 0 [.ptr 0 [], .sc (.int .i64 n)] [.box false 166 (.st 166 [.ro 5 y0 y1 r_b, .sc (.int .i64 r_e)])] k = JnQ f y0 y1 r_b r_e n k := by kernel_rfl
theorem Jvs (f : Nat) : Je (Try.f119.body.get!) JiI = [] := by kernel_rfl
theorem Jvt (f : Nat) : ∀ q ∈ Je (Try.f119.body.get!) JiI, q.Ok tau Try.prog 1 := by
 rw [Jvs f]; intro q hq; cases hq
theorem Jqs : Try.prog.funcs[119]? = some Try.f119 := by kernel_rfl
theorem Jqt : Try.f119.body = some (Try.f119.body.get!) := by kernel_rfl
theorem Jqu : Enters Try.prog 119 := enters_of Jqs (by kernel_rfl) Jqt
def Jg8 : List PV -> List Ent -> (Res -> Option Res) -> Option Res
 | [.ptr 0 [], .sc (.int .i64 n)], [.box false 166 (.st 166 [.ro 5 y0 y1 r_b, .sc (.int .i64 r_e)])], k => JnQ 0 y0 y1 r_b r_e n k
 | _, _, _ => none
def JAy : Sig := { own := [], run := Jg8 }
theorem Jvu : Jh tau Try.prog 119 JAy := JY Jq JnP Js Jqs Jqt JiI [.ro] 1 [] Jg8 (Jvt 0) fun xs es k res hr => by
 unfold Jg8 at hr
 split at hr
 · exact ⟨rfl, 0, (JAx 0 _ _ _ _ _  _).trans hr⟩
 · cases hr
structure RS where
 b : List PV
 e : Int
def byB (l : List PV) : Bool := l.all fun p => p.isInt .u8 && (decide (0 <= p.int) && decide (p.int < 256))
def Xy : List Int -> Int
 | [] => 0
 | x :: r => x + 256 * Xy r
def YZ (n : Nat) (s : RS) : Bool := s.e == 0 && Nat.ble n s.b.length
def Qe (n : Nat) (s : RS) : RS := bif YZ n s then ⟨s.b.drop n, 0⟩ else ⟨s.b, bif s.e == 0 then 8 else s.e⟩
def QC (n : Nat) (s : RS) : List PV := bif YZ n s then s.b.take n else []
def Wo (n : Nat) (s : RS) : Int := IntKind.i64.wrap (Xy (JA (QC n s)))
def okS : Nat -> RS -> Bool := hid YZ
def Jfv : Nat -> RS -> List PV := hid QC
theorem Jsk (n : Nat) (s : RS) : okS n s = YZ n s := by rw [okS, hid_eq]
theorem Jd7 (n : Nat) (s : RS) : Jfv n s = QC n s := by rw [Jfv, hid_eq]
def Jb : Nat -> RS -> RS := hid Qe
def JB : Nat -> RS -> Int := hid Wo
theorem W7 (n : Nat) (s : RS) : Jb n s = Qe n s := by rw [Jb, hid_eq]
theorem Xj (n : Nat) (s : RS) : JB n s = Wo n s := by rw [JB, hid_eq]
def Jfw (s : RS) : RS := Qe (Wo 2 s).toNat (Qe 2 s)
def Jfx (s : RS) : ByteArray := ⟨(Jm (QC (Wo 2 s).toNat (Qe 2 s))).toArray⟩
def J2 : RS -> RS := hid Jfw
def JT : RS -> ByteArray := hid Jfx
theorem Ja1 (s : RS) : J2 s = Jfw s := by rw [J2, hid_eq]
theorem Ja2 (s : RS) : JT s = Jfx s := by rw [JT, hid_eq]
theorem Wx {l : List PV} : byB l = true ↔ Jo .u8 l = true /\ ∀ x ∈ JA l, 0 <= x /\ x < 256 := by
 induction l with
 | nil => simp [byB, Jo, JA]
 | cons p ps ih =>
  have e1 : byB (p :: ps) = ((p.isInt .u8 && (decide (0 <= p.int) && decide (p.int < 256))) && byB ps) := rfl
  have e2 : JA (p :: ps) = p.int :: JA ps := rfl
  have e3 : Jo .u8 (p :: ps) = (p.isInt .u8 && Jo .u8 ps) := rfl
  rw [e1, e2, e3]
  simp only [Bool.and_eq_true, decide_eq_true_eq, List.mem_cons, forall_eq_or_imp, ih]
  constructor
  · rintro ⟨⟨h1, h2⟩, h3, h4⟩
    exact ⟨⟨h1, h3⟩, h2, h4⟩
  · rintro ⟨⟨h1, h3⟩, h2, h4⟩
    exact ⟨⟨h1, h2⟩, h3, h4⟩
theorem Jk6 {l : List PV} (h : byB l = true) (n : Nat) : byB (l.take n) = true := List.all_eq_true.2 fun p hp => List.all_eq_true.1 h p (List.mem_of_mem_take hp)
theorem Jk7 {l : List PV} (h : byB l = true) (n : Nat) : byB (l.drop n) = true := List.all_eq_true.2 fun p hp => List.all_eq_true.1 h p (List.mem_of_mem_drop hp)
theorem Jd8 {l : List Int} : byB (pu .u8 l) = true ↔ ∀ x ∈ l, 0 <= x /\ x < 256 := by rw [Wx]; simp
theorem XN {s : RS} (h : byB s.b = true) (n : Nat) : byB (Qe n s).b = true := by
 unfold Qe; cases YZ n s
 · exact h
 · exact Jk7 h n
theorem Jd9 {s : RS} (h : byB s.b = true) (n : Nat) : byB (QC n s) = true := by
 unfold QC; cases YZ n s
 · rfl
 · exact Jk6 h n
theorem Vi (n : Nat) (s : RS) : (QC n s).length <= n := by
 unfold QC; cases YZ n s
 · exact Nat.zero_le _
 · simp; omega
theorem Y0 : ∀ (l : List Int), (∀ x ∈ l, 0 <= x /\ x < 256) -> 0 <= Xy l /\ Xy l < 256 ^ l.length
 | [], h => by simp [Xy]
 | x :: r, h => by
  have h1 := h x List.mem_cons_self
  have h2 := Y0 r fun y hy => h y (List.mem_cons_of_mem _ hy)
  simp only [Xy, List.length_cons, Int.pow_succ]
  generalize (256 : Int) ^ r.length = B at *
  omega
theorem X5 {s : RS} (h : byB s.b = true) {n : Nat} (hn : n <= 2) : 0 <= Wo n s /\ Wo n s < 65536 := by
 have h1 := Y0 (JA (QC n s)) (Wx.1 (Jd9 h n)).2
 have h2 : (JA (QC n s)).length <= 2 := by rw [QS]; exact Nat.le_trans (Vi n s) hn
 have h3 : (256 : Int) ^ (JA (QC n s)).length <= 65536 := by
  generalize (JA (QC n s)).length = m at *
  match m, h2 with
  | 0, _ => decide
  | 1, _ => decide
  | 2, _ => decide
 unfold Wo
 rw [wrap_i64 (by omega) (by omega)]; omega
structure RT where
 B : List PV
 P : Int
 e : Int
def RT.view (t : RT) : RS := ⟨t.B.drop t.P.toNat, t.e⟩
def okT (t : RT) : Bool := decide (0 <= t.P) && (decide (t.P <= (t.B.length : Int)) && (byB t.B && Nat.ble t.B.length 1000000000))
def X6 (n : Nat) (t : RT) : RT := bif YZ n t.view then ⟨t.B, ((t.P.toNat + n : Nat) : Int), 0⟩ else ⟨t.B, t.P, bif t.e == 0 then 8 else t.e⟩
def JiJ : Nat -> RT -> RT := hid X6
def Jsl : Nat -> RT -> Int := hid fun n t => Wo n t.view
def Jfy (t : RT) : RT := X6 (Wo 2 t.view).toNat (X6 2 t)
def JnR : RT -> RT := hid Jfy
def Jk8 : RT -> ByteArray := hid fun t => Jfx t.view
theorem Jfz (n : Nat) (t : RT) : JiJ n t = X6 n t := by rw [JiJ, hid_eq]
theorem JnS (n : Nat) (t : RT) : Jsl n t = Wo n t.view := by rw [Jsl, hid_eq]
theorem JiK (t : RT) : JnR t = Jfy t := by rw [JnR, hid_eq]
theorem Jk9 (t : RT) : Jk8 t = Jfx t.view := by rw [Jk8, hid_eq]
theorem GV (n : Nat) (t : RT) : (X6 n t).view = Qe n t.view := by
 unfold X6 Qe
 cases YZ n t.view with
 | true => simp only [cond_true, RT.view, Int.toNat_natCast, List.drop_drop]
 | false => simp only [cond_false, RT.view]
theorem Jla (t : RT) : (Jfy t).view = Jfw t.view := by simp only [Jfy, Jfw, GV]
@[simp] theorem Jvv (n : Nat) (t : RT) : Jsl n t = JB n t.view := by rw [JnS, Xj]
@[simp] theorem Jsm (n : Nat) (t : RT) : (JiJ n t).view = Jb n t.view := by rw [Jfz, W7, GV]
@[simp] theorem JuV (t : RT) : (JnR t).view = J2 t.view := by rw [JiK, Ja1, Jla]
@[simp] theorem JuW (t : RT) : Jk8 t = JT t.view := by rw [Jk9, Ja2]
theorem VZ {t : RT} (h : okT t = true) (n : Nat) : okT (X6 n t) = true := by
 have h' := h
 simp only [okT, Bool.and_eq_true, decide_eq_true_eq, Nat.ble_eq] at h ⊢
 unfold X6
 cases hk : YZ n t.view with
 | true =>
  simp only [cond_true]
  have hn : n <= (t.B.drop t.P.toNat).length := by
   simp only [YZ, RT.view, Bool.and_eq_true, Nat.ble_eq] at hk; exact hk.2
  rw [List.length_drop] at hn
  refine ⟨by omega, by omega, h.2.2⟩
 | false => exact h
theorem JnT {t : RT} (h : okT t = true) : okT (Jfy t) = true := VZ (VZ h _) _
@[simp] theorem JuX {t : RT} (h : okT t = true) (n : Nat) : okT (JiJ n t) = true := by rw [Jfz]; exact VZ h n
@[simp] theorem Jvw {t : RT} (h : okT t = true) : okT (JnR t) = true := by rw [JiK]; exact JnT h
-- FN (*code.Reader).take
abbrev rdP (z f : Bool) (s : RS) : Ent := .box false 166 (.st 166 [.ro 5 z f s.b, .sc (.int .i64 s.e)])
def Jea : List PV -> List Ent -> (Res -> Option Res) -> Option Res
 | [.ptr 0 [], .sc (.int .i64 n)], [.box false 166 (.st 166 [.ro 5 z f b, .sc (.int .i64 e)])], k =>
  bif (!z || f) && decide (0 <= n) then k ⟨.ro 5 (!okS n.toNat ⟨b, e⟩ || z) (!okS n.toNat ⟨b, e⟩ || z) (Jfv n.toNat ⟨b, e⟩), [rdP z f (Jb n.toNat ⟨b, e⟩)], []⟩ else none
 | _, _, _ => none
def Jlb : Sig := { own := [], run := Jea }
theorem JnU (z f : Bool) (b : List PV) (e n : Int) (hz : (!z || f) = true) (hn : 0 <= n) (k : Res -> Option Res) :
   JnQ 0 z f b e n k = k ⟨.ro 5 (!okS n.toNat ⟨b, e⟩ || z) (!okS n.toNat ⟨b, e⟩ || z) (Jfv n.toNat ⟨b, e⟩), [rdP z f (Jb n.toNat ⟨b, e⟩)], []⟩ := by
 rw [Jsk, Jd7, W7]
 have hzf : (z || f) = f := by cases z <;> cases f <;> simp_all
 have hz2 : (z || f && false) = z := by cases z <;> cases f <;> rfl
 unfold JnQ
 by_cases c1 : n > zi b.length
 · have hk : Nat.ble n.toNat b.length = false := by
     cases h : Nat.ble n.toNat b.length with
     | false => rfl
     | true => rw [Nat.ble_eq] at h; simp only [zi] at c1; omega
   rw [Ja (by simpa using c1)]
   by_cases c2 : e = 0
   · subst c2
     simp only [beq_self_eq_true, cond_true]
     simp [YZ, QC, Qe, hk]
   · have hb : (e == 0) = false := by simpa using c2
     have hb2 : (e != 0) = true := by simpa using c2
     simp only [hb, hb2, cond_true, cond_false]
     simp [YZ, QC, Qe, hb]
 · rw [Jj (by simpa using c1)]
   by_cases c2 : e = 0
   · subst c2
     have hk : Nat.ble n.toNat b.length = true := by rw [Nat.ble_eq]; simp only [zi] at c1; omega
     have hk' : n.toNat <= b.length := by rw [Nat.ble_eq] at hk; exact hk
     have h00 : ((0 : Int) != 0) = false := by decide
     simp only [h00, cond_false]
     rw [Ja (by simp; omega), Ja (by simp; omega)]
     simp [YZ, QC, Qe, hk, hzf, hz2]
   · have hb : (e == 0) = false := by simpa using c2
     have hb2 : (e != 0) = true := by simpa using c2
     simp only [hb2, cond_true]
     simp [YZ, QC, Qe, hb]
theorem Jlc : Jh tau Try.prog 119 Jlb := Jvu.of fun xs es k res hr => by
 change Jea xs es k = some res at hr
 unfold Jea at hr
 split at hr
 · obtain ⟨hc, hr⟩ := JI hr
   simp only [Bool.and_eq_true, decide_eq_true_eq] at hc
   exact (JnU _ _ _ _ _ hc.1 hc.2 _).trans hr
 · cases hr
def Jct : Nat := 27
def Jld : Fns := JH 119 Jlb (F0)
theorem JiL : Jy tau Try.prog Jld := (JE).add Jlc Jqu
def GW : Code := Qn (Try.f118.body.get!) [1, 1, 0, 1, 0, 0]
def Wy : Nm := [(5, .any), (10, .any), (11, .any), (12, .any)]
def Xk : Nm := [(5, .any)]
def JbI : An := (.seq .leaf (.seq (.cond .leaf .leaf) (.seq (.block none (.seq .leaf .leaf)) .leaf)))
def JiM (r0 : QV) : An := (.seq .leaf (.seq .leaf (.seq (.seq .leaf (.block none (.sum Wy Jct r0))) (.seq .leaf .leaf))))
def Y1 (f : Nat) (rc : Int -> Bool -> Bool -> List PV -> Int -> Int -> Bool -> Bool -> List PV -> Int -> Option Res) (k0 : Int -> Bool -> Bool -> List PV -> Int -> Option Res) (v0 : Int) (v1 v2 : Bool) (v3 : List PV) (v4 v5 : Int) (v6 v7 : Bool) (v8 : List PV) (v9 : Int) : Option Res := bif decide (v5 < v4) then bif decide (0 <= v5) && decide (v5 < zi v3.length) && PV.isInt IntKind.u8 (v3.getD v5.toNat PV.top) && true then bif decide (0 <= IntKind.i64.wrap (8 * v5)) && true then rc (JF BinOp.or IntKind.u64 v0 (Xx IntKind.u64 (IntKind.u64.wrap (v3.getD v5.toNat PV.top).int) (IntKind.i64.wrap (8 * v5)))) v1 v2 v3 v4 (IntKind.i64.wrap (v5 + 1)) v6 v7 v8 v9 else none else none else k0 v0 v6 v7 v8 v9
def X7 (f : Nat) (k0 : Int -> Bool -> Bool -> List PV -> Int -> Option Res) : Nat -> Int -> Bool -> Bool -> List PV -> Int -> Int -> Bool -> Bool -> List PV -> Int -> Option Res
 | 0, _, _, _, _, _, _, _, _, _, _ => none
 | n + 1, v0, v1, v2, v3, v4, v5, v6, v7, v8, v9 => Y1 f (X7 f k0 n) k0 v0 v1 v2 v3 v4 v5 v6 v7 v8 v9
theorem Jle (f : Nat) (k : Kont) (n : Nat) (v0 : Int) (v1 v2 : Bool) (v3 : List PV) (v4 v5 : Int) (v6 v7 : Bool) (v8 : List PV) (v9 : Int) : Jp tau 1 Wy (fun s k => ev tau Jld 1 0 GW (JbI ) s k) (n + 1) (Jc Wy Jct [.sc (.int .u64 v0), .ro 5 v1 v2 v3, .sc (.int .i64 v4), .sc (.int .i64 v5)] [(0, .box false 166 (PV.st 166 [.ro 5 v6 v7 v8, .sc (.int .i64 v9)]))]) (Jt tau 1 Xk k) = Y1 f (fun v0 v1 v2 v3 v4 v5 v6 v7 v8 v9 => Jp tau 1 Wy (fun s k => ev tau Jld 1 0 GW (JbI ) s k) n (Jc Wy Jct [.sc (.int .u64 v0), .ro 5 v1 v2 v3, .sc (.int .i64 v4), .sc (.int .i64 v5)] [(0, .box false 166 (PV.st 166 [.ro 5 v6 v7 v8, .sc (.int .i64 v9)]))]) (Jt tau 1 Xk k)) (fun x0 x1 x2 x3 x4 => k (Ex.exit 0) (Jc Xk Jct [.sc (.int .u64 x0)] [(0, .box false 166 (PV.st 166 [.ro 5 x1 x2 x3, .sc (.int .i64 x4)]))])) v0 v1 v2 v3 v4 v5 v6 v7 v8 v9 := by kernel_rfl
theorem JfA (f : Nat) (k : Kont) : ∀ (n : Nat) (v0 : Int) (v1 v2 : Bool) (v3 : List PV) (v4 v5 : Int) (v6 v7 : Bool) (v8 : List PV) (v9 : Int), Jp tau 1 Wy (fun s k => ev tau Jld 1 0 GW (JbI ) s k) n (Jc Wy Jct [.sc (.int .u64 v0), .ro 5 v1 v2 v3, .sc (.int .i64 v4), .sc (.int .i64 v5)] [(0, .box false 166 (PV.st 166 [.ro 5 v6 v7 v8, .sc (.int .i64 v9)]))]) (Jt tau 1 Xk k) = X7 f (fun x0 x1 x2 x3 x4 => k (Ex.exit 0) (Jc Xk Jct [.sc (.int .u64 x0)] [(0, .box false 166 (PV.st 166 [.ro 5 x1 x2 x3, .sc (.int .i64 x4)]))])) n v0 v1 v2 v3 v4 v5 v6 v7 v8 v9 | 0, _, _, _, _, _, _, _, _, _, _ => rfl | n + 1, v0, v1, v2, v3, v4, v5, v6, v7, v8, v9 => (Jle f k n v0 v1 v2 v3 v4 v5 v6 v7 v8 v9).trans (congrArg (fun r => Y1 f r (fun x0 x1 x2 x3 x4 => k (Ex.exit 0) (Jc Xk Jct [.sc (.int .u64 x0)] [(0, .box false 166 (PV.st 166 [.ro 5 x1 x2 x3, .sc (.int .i64 x4)]))])) v0 v1 v2 v3 v4 v5 v6 v7 v8 v9) (by funext v0 v1 v2 v3 v4 v5 v6 v7 v8 v9; exact JfA f k n v0 v1 v2 v3 v4 v5 v6 v7 v8 v9))
def Vj (f : Nat) : List PV -> List (Nat × Ent) -> Kont -> Option Res
 | [.sc (.int .u64 v0), .ro 5 v1 v2 v3, .sc (.int .i64 v4),
 PV.sc
  (Value.int IntKind.i64
   v5)], [(0,
  Ent.box false 166
   (PV.st 166
    [.ro 5 v6 v7 v8,
     PV.sc
      (Value.int IntKind.i64
       v9)]))], k => X7 f (fun x0 x1 x2 x3 x4 => k (Ex.exit
 0) (Jc Xk Jct [.sc (.int .u64 x0)] [(0, .box false 166 (PV.st 166 [.ro 5 x1 x2 x3, .sc (.int .i64 x4)]))])) f v0 v1 v2 v3 v4 v5 v6 v7 v8 v9
 | _, _, _ => none
theorem JnV (f : Nat) : Je GW JbI = [] := by kernel_rfl
theorem JnW (f : Nat) : (Item.l GW Wy Jct (Vj f)).Ok tau Try.prog 1 := JJ Jq JiL Js (x := JbI) (nm2 := Xk) (Jl _ _ (by rw [JnV f]; intro q hq; cases hq)) fun vs hp k res hr => by
 unfold Vj at hr
 split at hr
 · exact ⟨f, 0, (JfA f _ f _ _ _ _ _ _ _ _ _ _ ).trans hr⟩
 · cases hr
def Jsn (f : Nat) (y0 y1 : Bool) (r_b : List PV) (r_e n : Int) (k : Res -> Option Res) : Option Res := bif (!y0 || y1) && decide (0 <= n) then X7 f (fun x0_0 x1_0 x2_0 x3_0 x4_0 => k (Res.mk (.sc (.int .i64 (IntKind.i64.wrap x0_0))) [.box false 166 (PV.st 166 [.ro 5 x1_0 x2_0 x3_0, .sc (.int .i64 x4_0)])] [])) f (0) (!okS n.toNat (RS.mk r_b r_e) || y0) (!okS n.toNat (RS.mk r_b r_e) || y0) (Jfv n.toNat (RS.mk r_b r_e)) (zi (Jfv n.toNat (RS.mk r_b r_e)).length) (0) y0 y1 ((Jb n.toNat (RS.mk r_b r_e)).b) ((Jb n.toNat (RS.mk r_b r_e)).e) else none
theorem JAz (f : Nat) (y0 y1 : Bool) (r_b : List PV) (r_e n : Int) (k : Res -> Option Res) : JL tau Jld Try.f118 (Try.f118.body.get!) (JiM (Vj f)) [.ro] 0 [.ptr 0 [], .sc (.int .i64 n)] [.box false 166 (.st 166 [.ro 5 y0 y1 r_b, .sc (.int .i64 r_e)])] k = Jsn f y0 y1 r_b r_e n k := by kernel_rfl
theorem Jvx (f : Nat) : Je (Try.f118.body.get!) (JiM (Vj f)) = [.l GW Wy Jct (Vj f)] := by kernel_rfl
theorem Jvy (f : Nat) : ∀ q ∈ Je (Try.f118.body.get!) (JiM (Vj f)), q.Ok tau Try.prog 1 := by
 rw [Jvx f]; simp only [List.forall_mem_cons, List.not_mem_nil, false_implies, implies_true, and_true]; exact JnW f
theorem Jqv : Try.prog.funcs[118]? = some Try.f118 := by kernel_rfl
theorem Jqw : Try.f118.body = some (Try.f118.body.get!) := by kernel_rfl
theorem Jlf : Enters Try.prog 118 := enters_of Jqv (by kernel_rfl) Jqw
-- FN (*code.Reader).number
theorem JcW : ∀ (l : List Int) (x : Int), Xy (l ++ [x]) = Xy l + x * 256 ^ l.length
 | [], x => by simp [Xy]
 | y :: r, x => by
  simp only [List.cons_append, Xy, JcW r x, List.length_cons, Int.pow_succ]
  have : x * (256 ^ r.length * 256) = 256 * (x * 256 ^ r.length) := by rw [Int.mul_comm 256, Int.mul_assoc]
  omega
theorem Jlg (i : Nat) : (256 : Int) ^ i = 2 ^ (8 * i) := by rw [Int.pow_mul]; rfl
theorem Jlh {v y : Int} {j : Nat} (hj : j <= 64) (hv0 : 0 <= v) (hv : v < 2 ^ j) (hy0 : 0 <= y) (hy : y * 2 ^ j < 2 ^ 64) : JF .or .u64 v (y * 2 ^ j) = v + y * 2 ^ j := by
 obtain ⟨a, rfl⟩ := Int.eq_ofNat_of_zero_le hv0
 obtain ⟨b, rfl⟩ := Int.eq_ofNat_of_zero_le hy0
 have e1 : ((b : Int)) * 2 ^ j = ((b * 2 ^ j : Nat) : Int) := by rw [Int.natCast_mul, Int.natCast_pow]; rfl
 have e2 : ((2 : Int)) ^ j = ((2 ^ j : Nat) : Int) := by rw [Int.natCast_pow]; rfl
 have e3 : ((2 : Int)) ^ 64 = ((2 ^ 64 : Nat) : Int) := by rw [Int.natCast_pow]; rfl
 rw [e2] at hv
 rw [e1, e3] at hy
 have ha : a < 2 ^ j := Int.ofNat_lt.1 hv
 have hb : b * 2 ^ j < 2 ^ 64 := Int.ofNat_lt.1 hy
 rw [e1]
 have hor : a ||| b * 2 ^ j = a + b * 2 ^ j := by
  have h := Nat.shiftLeft_add_eq_or_of_lt ha b
  rw [Nat.shiftLeft_eq] at h
  rw [Nat.or_comm, ← h, Nat.add_comm]
 have ha2 : a < 2 ^ 64 := Nat.lt_of_lt_of_le ha (Nat.pow_le_pow_right (by omega) hj)
 have hsum : a + b * 2 ^ j < 2 ^ 64 := by rw [← hor]; exact Nat.or_lt_two_pow ha2 hb
 generalize hc : b * 2 ^ j = c at *
 have ht : (BitVec.ofInt 64 (a : Int) ||| BitVec.ofInt 64 (c : Int)).toNat = a + c := by
  rw [BitVec.toNat_or, BitVec.ofInt_natCast, BitVec.ofInt_natCast, BitVec.toNat_ofNat, BitVec.toNat_ofNat, Nat.mod_eq_of_lt ha2, Nat.mod_eq_of_lt hb, hor]
 show IntKind.u64.wrap ((BitVec.ofInt 64 (a : Int) ||| BitVec.ofInt 64 (c : Int)).toNat : Int) = _
 rw [ht, QT]
 have h64 : (2 : Nat) ^ 64 = 18446744073709551616 := by decide
 rw [h64] at hsum
 omega
theorem Jli {x : Int} (h0 : 0 <= x) (h1 : x < 256) {i : Nat} (hi : i < 8) : Xx .u64 (IntKind.u64.wrap x) (8 * (i : Int)) = x * 2 ^ (8 * i) := by
 rw [QT, Int.emod_eq_of_lt h0 (by omega), Xx, QT]
 have : min (8 * (i : Int)).toNat IntKind.u64.bits = 8 * i := by
  have : IntKind.u64.bits = 64 := rfl
  rw [this]; omega
 rw [this]
 have hp : (2 : Int) ^ (8 * i) <= 2 ^ 56 := by
  have h : (2 ^ (8 * i) : Nat) <= 2 ^ 56 := Nat.pow_le_pow_right (by omega) (by omega)
  have e2 : ((2 : Int)) ^ (8 * i) = ((2 ^ (8 * i) : Nat) : Int) := by rw [Int.natCast_pow]; rfl
  have e3 : ((2 : Int)) ^ 56 = ((2 ^ 56 : Nat) : Int) := by rw [Int.natCast_pow]; rfl
  rw [e2, e3]; exact Int.ofNat_le.2 h
 have hp0 : (0 : Int) <= 2 ^ (8 * i) := Int.le_of_lt (by
   have e2 : ((2 : Int)) ^ (8 * i) = ((2 ^ (8 * i) : Nat) : Int) := by rw [Int.natCast_pow]; rfl
   rw [e2]; exact Int.ofNat_lt.2 (Nat.two_pow_pos _))
 have h56 : (2 : Int) ^ 56 = 72057594037927936 := by decide
 rw [h56] at hp
 have hm : x * 2 ^ (8 * i) <= 255 * 2 ^ (8 * i) := Int.mul_le_mul_of_nonneg_right (by omega) hp0
 have hm0 : 0 <= x * 2 ^ (8 * i) := Int.mul_nonneg h0 hp0
 exact Int.emod_eq_of_lt hm0 (by omega)
theorem Jlj (L : List Int) (hL : ∀ x ∈ L, 0 <= x /\ x < 256) (h8 : L.length <= 8) (f : Nat) (k0 : Int -> Bool -> Bool -> List PV -> Int -> Option Res) (a b c d : Bool) (R : List PV) (e : Int) : ∀ (dd i n : Nat), i + dd = L.length -> dd < n ->
  X7 f k0 n (Xy (L.take i)) a b (pu .u8 L) (L.length : Int) (i : Int) c d R e = k0 (Xy L) c d R e
 | 0, i, n + 1, h, hn => by
   obtain rfl : i = L.length := by omega
   simp only [X7, Y1, List.take_length]
   exact Jj (by simp)
 | dd + 1, i, n + 1, h, hn => by
   have g1 : ((i : Int)).toNat = i := by omega
   have h1 : IntKind.i64.wrap ((i : Int) + 1) = ((i + 1 : Nat) : Int) := by rw [wrap_i64 (by omega) (by omega)]; omega
   have h2 : IntKind.i64.wrap (8 * (i : Int)) = 8 * (i : Int) := wrap_i64 (by omega) (by omega)
   have hi : i < L.length := by omega
   have hx := hL (L.getD i 0) (by rw [List.getD_eq_getElem?_getD, List.getElem?_eq_getElem hi]; exact List.getElem_mem hi)
   simp only [X7, Y1, g1, h1, h2]
   rw [J5 hi, Qu hi]
   refine (Ja (by simp; omega)).trans ((Ja (by simp [zi]; omega)).trans ((Ja (by simp; omega)).trans ?_))
   have ht : L.take (i + 1) = L.take i ++ [L.getD i 0] := by
    rw [List.take_add_one, List.getD_eq_getElem?_getD, List.getElem?_eq_getElem hi]; rfl
   have hb := Y0 (L.take i) fun x hx => hL x (List.mem_of_mem_take hx)
   have hlen : (L.take i).length = i := by rw [List.length_take]; omega
   rw [hlen, Jlg] at hb
   have hs := Jli hx.1 hx.2 (i := i) (by omega)
   have hlt : L.getD i 0 * 2 ^ (8 * i) < 2 ^ 64 := by
    have hp : (2 : Int) ^ (8 * i) <= 2 ^ 56 := by
     have h : (2 ^ (8 * i) : Nat) <= 2 ^ 56 := Nat.pow_le_pow_right (by omega) (by omega)
     have e2 : ((2 : Int)) ^ (8 * i) = ((2 ^ (8 * i) : Nat) : Int) := by rw [Int.natCast_pow]; rfl
     have e3 : ((2 : Int)) ^ 56 = ((2 ^ 56 : Nat) : Int) := by rw [Int.natCast_pow]; rfl
     rw [e2, e3]; exact Int.ofNat_le.2 h
    have hp0 : (0 : Int) <= 2 ^ (8 * i) := by omega
    have h56 : (2 : Int) ^ 56 = 72057594037927936 := by decide
    have h64 : (2 : Int) ^ 64 = 18446744073709551616 := by decide
    rw [h56] at hp; rw [h64]
    have hm : L.getD i 0 * 2 ^ (8 * i) <= 255 * 2 ^ (8 * i) := Int.mul_le_mul_of_nonneg_right (by omega) hp0
    omega
   rw [hs, Jlh (by omega) hb.1 hb.2 hx.1 hlt]
   have hn1 : Xy (L.take i) + L.getD i 0 * 2 ^ (8 * i) = Xy (L.take (i + 1)) := by
    rw [ht, JcW, hlen, Jlg]
   rw [hn1]
   exact Jlj L hL h8 f k0 a b c d R e dd (i + 1) n (by omega) (by omega)
def Jeb : List PV -> List Ent -> (Res -> Option Res) -> Option Res
 | [.ptr 0 [], .sc (.int .i64 n)], [.box false 166 (.st 166 [.ro 5 z f b, .sc (.int .i64 e)])], k =>
  bif (!z || f) && (decide (0 <= n) && decide (n <= 8)) && byB b then k ⟨.sc (.int .i64 (JB n.toNat ⟨b, e⟩)), [rdP z f (Jb n.toNat ⟨b, e⟩)], []⟩ else none
 | _, _, _ => none
def JiN : Sig := { own := [], run := Jeb }
theorem JnX (z f : Bool) (b : List PV) (e n : Int) (hz : (!z || f) = true) (hn : 0 <= n) (hn8 : n <= 8) (hb : byB b = true) (k : Res -> Option Res) :
  Jsn 20 z f b e n k = k ⟨.sc (.int .i64 (JB n.toNat ⟨b, e⟩)), [rdP z f (Jb n.toNat ⟨b, e⟩)], []⟩ := by
 unfold Jsn
 rw [Ja (by rw [hz]; simpa using hn), Xj, Jd7]
 have ho : byB (QC n.toNat ⟨b, e⟩) = true := Jd9 hb _
 have hoi := Wx.1 ho
 have hl : (JA (QC n.toNat ⟨b, e⟩)).length <= 8 := by rw [QS]; exact Nat.le_trans (Vi _ _) (by omega)
 have hL := Jlj (JA (QC n.toNat ⟨b, e⟩)) hoi.2 hl 20 (fun x0_0 x1_0 x2_0 x3_0 x4_0 => k (Res.mk (.sc (.int .i64 (IntKind.i64.wrap x0_0))) [.box false 166 (.st 166 [.ro 5 x1_0 x2_0 x3_0, .sc (.int .i64 x4_0)])] [])) (!okS n.toNat ⟨b, e⟩ || z) (!okS n.toNat ⟨b, e⟩ || z) z f (Jb n.toNat ⟨b, e⟩).b (Jb n.toNat ⟨b, e⟩).e (JA (QC n.toNat ⟨b, e⟩)).length 0 20 (by omega) (by omega)
 rw [← Qk hoi.1, QS] at hL
 simp only [List.take_zero, Xy] at hL
 exact hL
theorem Jg9 : Jh tau Try.prog 118 JiN := Jh.mk' fun xs es k res hl hr => by
 change Jeb xs es k = some res at hr
 unfold Jeb at hr
 split at hr
 · rename_i n z f b e
   obtain ⟨hc, hr⟩ := JI hr
   simp only [Bool.and_eq_true, decide_eq_true_eq] at hc
   exact Qj Jq JiL Js Jqv Jqw (JiM (Vj 20)) [.ro] 1 0 (Jvy 20) hl rfl ((JAz 20 z f b e n k).trans ((JnX z f b e n hc.1.1 hc.1.2.1 hc.1.2.2 hc.2 k).trans hr))
 · cases hr
def F81 : Fns := JH 118 JiN (F0)
theorem Jso : Jy tau Try.prog F81 := (JE).add Jg9 Jlf
def JnY : An := (.seq .leaf (.seq .leaf .leaf))
def g81 (f : Nat) (y0 y1 : Bool) (r_b : List PV) (r_e : Int) (k : Res -> Option Res) : Option Res := bif (!y0 || y1) && true && byB r_b then k (Res.mk (.sc (.int .i64 (JB 8 (RS.mk r_b r_e)))) [.box false 166 (PV.st 166 [.ro 5 y0 y1 (Jb 8 (RS.mk r_b r_e)).b, .sc (.int .i64 (Jb 8 (RS.mk r_b r_e)).e)])] []) else none
theorem e81 (f : Nat) (y0 y1 : Bool) (r_b : List PV) (r_e : Int) (k : Res -> Option Res) : JL tau F81 Try.f81 (Try.f81.body.get!) JnY [.ro] 0 [.ptr 0 []] [.box false 166 (.st 166 [.ro 5 y0 y1 r_b, .sc (.int .i64 r_e)])] k = g81 f y0 y1 r_b r_e k := by kernel_rfl
theorem JAA (f : Nat) : Je (Try.f81.body.get!) JnY = [] := by kernel_rfl
theorem JAB (f : Nat) : ∀ q ∈ Je (Try.f81.body.get!) JnY, q.Ok tau Try.prog 1 := by
 rw [JAA f]; intro q hq; cases hq
theorem Jvz : Try.prog.funcs[81]? = some Try.f81 := by kernel_rfl
theorem JvA : Try.f81.body = some (Try.f81.body.get!) := by kernel_rfl
theorem JvB : Enters Try.prog 81 := enters_of Jvz (by kernel_rfl) JvA
def Jlk : List PV -> List Ent -> (Res -> Option Res) -> Option Res
 | [.ptr 0 []], [.box false 166 (.st 166 [.ro 5 y0 y1 r_b, .sc (.int .i64 r_e)])], k => g81 0 y0 y1 r_b r_e k
 | _, _, _ => none
def s81 : Sig := { own := [], run := Jlk }
theorem JvC : Jh tau Try.prog 81 s81 := JY Jq Jso Js Jvz JvA JnY [.ro] 1 [] Jlk (JAB 0) fun xs es k res hr => by
 unfold Jlk at hr
 split at hr
 · exact ⟨rfl, 0, (e81 0 _ _ _ _  _).trans hr⟩
 · cases hr
def F82 : Fns := JH 118 JiN (F0)
theorem Jsp : Jy tau Try.prog F82 := (JE).add Jg9 Jlf
def JnZ : An := (.seq .leaf (.seq .leaf .leaf))
def g82 (f : Nat) (y0 y1 : Bool) (r_b : List PV) (r_e : Int) (k : Res -> Option Res) : Option Res := bif (!y0 || y1) && true && byB r_b then k (Res.mk (.sc (.int .i64 (JB 1 (RS.mk r_b r_e)))) [.box false 166 (PV.st 166 [.ro 5 y0 y1 (Jb 1 (RS.mk r_b r_e)).b, .sc (.int .i64 (Jb 1 (RS.mk r_b r_e)).e)])] []) else none
theorem e82 (f : Nat) (y0 y1 : Bool) (r_b : List PV) (r_e : Int) (k : Res -> Option Res) : JL tau F82 Try.f82 (Try.f82.body.get!) JnZ [.ro] 0 [.ptr 0 []] [.box false 166 (.st 166 [.ro 5 y0 y1 r_b, .sc (.int .i64 r_e)])] k = g82 f y0 y1 r_b r_e k := by kernel_rfl
theorem JAC (f : Nat) : Je (Try.f82.body.get!) JnZ = [] := by kernel_rfl
theorem JAD (f : Nat) : ∀ q ∈ Je (Try.f82.body.get!) JnZ, q.Ok tau Try.prog 1 := by
 rw [JAC f]; intro q hq; cases hq
theorem JvD : Try.prog.funcs[82]? = some Try.f82 := by kernel_rfl
theorem JvE : Try.f82.body = some (Try.f82.body.get!) := by kernel_rfl
theorem JvF : Enters Try.prog 82 := enters_of JvD (by kernel_rfl) JvE
def Jll : List PV -> List Ent -> (Res -> Option Res) -> Option Res
 | [.ptr 0 []], [.box false 166 (.st 166 [.ro 5 y0 y1 r_b, .sc (.int .i64 r_e)])], k => g82 0 y0 y1 r_b r_e k
 | _, _, _ => none
def s82 : Sig := { own := [], run := Jll }
theorem JvG : Jh tau Try.prog 82 s82 := JY Jq Jsp Js JvD JvE JnZ [.ro] 1 [] Jll (JAD 0) fun xs es k res hr => by
 unfold Jll at hr
 split at hr
 · exact ⟨rfl, 0, (e82 0 _ _ _ _  _).trans hr⟩
 · cases hr
def F83 : Fns := JH 119 Jlb (JH 118 JiN (F0))
theorem Jsq : Jy tau Try.prog F83 := ((JE).add Jg9 Jlf).add Jlc Jqu
def Jn0 : An := (.seq .leaf (.seq .leaf (.seq .leaf .leaf)))
def g83 (f : Nat) (y0 y1 : Bool) (r_b : List PV) (r_e : Int) (k : Res -> Option Res) : Option Res := bif (!y0 || y1) && true && byB r_b then bif (!y0 || y1) && decide (0 <= JB 2 (RS.mk r_b r_e)) then bif Jo IntKind.u8 (Jfv (JB 2 (RS.mk r_b r_e)).toNat (Jb 2 (RS.mk r_b r_e))) && true then k (Res.mk (.sc (.string (ByteArray.mk (Array.mk (Jm (!okS (JB 2 (RS.mk r_b r_e)).toNat (RS.mk (Jb 2 (RS.mk r_b r_e)).b (Jb 2 (RS.mk r_b r_e)).e) || y0, Jfv (JB 2 (RS.mk r_b r_e)).toNat (Jb 2 (RS.mk r_b r_e))).snd))))) [.box false 166 (PV.st 166 [.ro 5 y0 y1 (Jb (JB 2 (RS.mk r_b r_e)).toNat (Jb 2 (RS.mk r_b r_e))).b, .sc (.int .i64 (Jb (JB 2 (RS.mk r_b r_e)).toNat (Jb 2 (RS.mk r_b r_e))).e)])] []) else none else none else none
theorem e83 (f : Nat) (y0 y1 : Bool) (r_b : List PV) (r_e : Int) (k : Res -> Option Res) : JL tau F83 Try.f83 (Try.f83.body.get!) Jn0 [.ro] 0 [.ptr 0 []] [.box false 166 (.st 166 [.ro 5 y0 y1 r_b, .sc (.int .i64 r_e)])] k = g83 f y0 y1 r_b r_e k := by kernel_rfl
theorem JAE (f : Nat) : Je (Try.f83.body.get!) Jn0 = [] := by kernel_rfl
theorem JAF (f : Nat) : ∀ q ∈ Je (Try.f83.body.get!) Jn0, q.Ok tau Try.prog 1 := by
 rw [JAE f]; intro q hq; cases hq
theorem JvH : Try.prog.funcs[83]? = some Try.f83 := by kernel_rfl
theorem JvI : Try.f83.body = some (Try.f83.body.get!) := by kernel_rfl
theorem JvJ : Enters Try.prog 83 := enters_of JvH (by kernel_rfl) JvI
def Jlm : List PV -> List Ent -> (Res -> Option Res) -> Option Res
 | [.ptr 0 []], [.box false 166 (.st 166 [.ro 5 y0 y1 r_b, .sc (.int .i64 r_e)])], k => g83 0 y0 y1 r_b r_e k
 | _, _, _ => none
def s83 : Sig := { own := [], run := Jlm }
theorem JAG : Jh tau Try.prog 83 s83 := JY Jq Jsq Js JvH JvI Jn0 [.ro] 1 [] Jlm (JAF 0) fun xs es k res hr => by
 unfold Jlm at hr
 split at hr
 · exact ⟨rfl, 0, (e83 0 _ _ _ _  _).trans hr⟩
 · cases hr
-- FN (*code.Reader).Text
def Jha : List PV -> List Ent -> (Res -> Option Res) -> Option Res
 | [.ptr 0 []], [.box false 166 (.st 166 [.ro 5 z f b, .sc (.int .i64 e)])], k =>
  bif (!z || f) && byB b then k ⟨.sc (.string (JT ⟨b, e⟩)), [rdP z f (J2 ⟨b, e⟩)], []⟩ else none
 | _, _, _ => none
def Jsr : Sig := { own := [], run := Jha }
theorem Jqx : Jh tau Try.prog 83 Jsr := JAG.of fun xs es k res hr => by
 change Jha xs es k = some res at hr
 unfold Jha at hr
 split at hr
 · rename_i z f b e
   obtain ⟨hc, hr⟩ := JI hr
   simp only [Bool.and_eq_true] at hc
   show g83 0 z f b e k = some res
   have hn := (X5 (s := ⟨b, e⟩) hc.2 (n := 2) (by omega)).1
   have ho := (Wx.1 (Jd9 (s := Qe 2 ⟨b, e⟩) (XN (s := ⟨b, e⟩) hc.2 2) (Wo 2 ⟨b, e⟩).toNat)).1
   unfold g83
   simp only [Xj, W7, Jd7]
   rw [Ja (by rw [hc.1, hc.2]; rfl), Ja (by rw [hc.1]; simpa using hn), Ja (by rw [ho]; rfl)]
   rw [Ja2, Ja1] at hr
   exact hr
 · cases hr


def F76 : Fns := F0
theorem Jss : Jy tau Try.prog F76 := JE
def Jn1 : An := (.seq .leaf (.seq (.seq .leaf (.cond (.seq .leaf .leaf) .leaf)) (.seq .leaf .leaf)))
def g76 (f : Nat) (s_z s_f : Bool) (s : List PV) (k : Res -> Option Res) : Option Res := bif s_z then k (Res.mk (.ro 5 true true []) [] []) else bif Jf (0 + s.length) 1 && true then k (Res.mk (.ro 5 false false (List.take (0 + s.length) s)) [] []) else none
theorem e76 (f : Nat) (s_z s_f : Bool) (s : List PV) (k : Res -> Option Res) : JL tau F76 Try.f76 (Try.f76.body.get!) Jn1 [.ro] 0 [.ro 5 s_z s_f s] [] k = g76 f s_z s_f s k := by kernel_rfl
theorem JAH (f : Nat) : Je (Try.f76.body.get!) Jn1 = [] := by kernel_rfl
theorem JAI (f : Nat) : ∀ q ∈ Je (Try.f76.body.get!) Jn1, q.Ok tau Try.prog 0 := by
 rw [JAH f]; intro q hq; cases hq
theorem JvK : Try.prog.funcs[76]? = some Try.f76 := by kernel_rfl
theorem JvL : Try.f76.body = some (Try.f76.body.get!) := by kernel_rfl
theorem JAJ : Enters Try.prog 76 := enters_of JvK (by kernel_rfl) JvL
def Jln : List PV -> List Ent -> (Res -> Option Res) -> Option Res
 | [.ro 5 s_z s_f s], [], k => g76 0 s_z s_f s k
 | _, _, _ => none
def s76 : Sig := { own := [], run := Jln }
theorem JAK : Jh tau Try.prog 76 s76 := JY Jq Jss Js JvK JvL Jn1 [.ro] 0 [] Jln (JAI 0) fun xs es k res hr => by
 unfold Jln at hr
 split at hr
 · exact ⟨rfl, 0, (e76 0 _ _ _  _).trans hr⟩
 · cases hr
-- FN slices.Clone[[]byte,byte]
def slB (z : Bool) (l : List PV) : Bool := (!z || l.isEmpty) && Nat.ble l.length 1000000000
theorem Wz {z : Bool} {l : List PV} : slB z l = true ↔ (z = true -> l = []) /\ l.length <= 1000000000 := by
 simp only [slB, Bool.and_eq_true, Nat.ble_eq, Bool.or_eq_true, Bool.not_eq_true', List.isEmpty_iff]
 cases z <;> simp
def Jhb : List PV -> List Ent -> (Res -> Option Res) -> Option Res
 | [.ro 5 z f l], [], k => bif slB z l then k ⟨.ro 5 z z l, [], []⟩ else none
 | _, _, _ => none
def JvM : Sig := { own := [], run := Jhb }
theorem JvN : Jh tau Try.prog 76 JvM := JAK.of fun xs es k res hr => by
 change Jhb xs es k = some res at hr
 unfold Jhb at hr
 split at hr
 · rename_i z f l
   obtain ⟨hc, hr⟩ := JI hr
   obtain ⟨h1, h2⟩ := Wz.1 hc
   show g76 0 z f l k = some res
   unfold g76
   cases z with
   | true => obtain rfl := h1 rfl; exact hr
   | false =>
    rw [cond_false, Ja (by simp [Jf]; omega)]
    simp only [Nat.zero_add, List.nil_append, List.take_length]
    exact hr
 · cases hr



-- FN (*ref1.Reader).take



-- FN (*ref1.Reader).Int | (*ref1.Reader).Byte | (*ref1.Reader).Text

def JvO : Fns := F0
theorem Jn2 : Jy tau Try.prog JvO := JE
def JiO : An := (.seq .leaf (.seq .leaf (.seq .leaf .leaf)))
def JvP (f : Nat) (x k1 : Int) (k : Res -> Option Res) : Option Res := bif decide (0 <= IntKind.u64.wrap (32 - JF BinOp.and IntKind.u64 (IntKind.u64.wrap k1) 31)) && true then k (Res.mk (.sc (.int .u32 (JF BinOp.or IntKind.u32 (Xx IntKind.u32 x (JF BinOp.and IntKind.u64 (IntKind.u64.wrap k1) 31)) (Jz IntKind.u32 x (IntKind.u64.wrap (32 - JF BinOp.and IntKind.u64 (IntKind.u64.wrap k1) 31)))))) [] []) else none
theorem JAL (f : Nat) (x k1 : Int) (k : Res -> Option Res) : JL tau JvO Try.f134 (Try.f134.body.get!) JiO [.ro] 0 [.sc (.int .u32 x), .sc (.int .i64 k1)] [] k = JvP f x k1 k := by kernel_rfl
theorem JvQ (f : Nat) : Je (Try.f134.body.get!) JiO = [] := by kernel_rfl
theorem JvR (f : Nat) : ∀ q ∈ Je (Try.f134.body.get!) JiO, q.Ok tau Try.prog 0 := by
 rw [JvQ f]; intro q hq; cases hq
theorem Jqy : Try.prog.funcs[134]? = some Try.f134 := by kernel_rfl
theorem Jqz : Try.f134.body = some (Try.f134.body.get!) := by kernel_rfl
theorem JvS : Enters Try.prog 134 := enters_of Jqy (by kernel_rfl) Jqz
def Jhc : List PV -> List Ent -> (Res -> Option Res) -> Option Res
 | [.sc (.int .u32 x), .sc (.int .i64 k1)], [], k => JvP 0 x k1 k
 | _, _, _ => none
def JvT : Sig := { own := [], run := Jhc }
theorem JvU : Jh tau Try.prog 134 JvT := JY Jq Jn2 Js Jqy Jqz JiO [.ro] 0 [] Jhc (JvR 0) fun xs es k res hr => by
 unfold Jhc at hr
 split at hr
 · exact ⟨rfl, 0, (JAL 0 _ _  _).trans hr⟩
 · cases hr
def JvV : Fns := JH 134 JvT (F0)
theorem Jn3 : Jy tau Try.prog JvV := (JE).add JvU JvS
def JiP : An := (.seq .leaf (.seq .leaf .leaf))
def Jn4 (f : Nat) (x n : Int) (k : Res -> Option Res) : Option Res := bif decide (0 <= IntKind.u64.wrap (32 - JF BinOp.and IntKind.u64 (IntKind.u64.wrap (IntKind.i64.wrap (0 - n))) 31)) && true then k (Res.mk (.sc (.int .u32 (JF BinOp.or IntKind.u32 (Xx IntKind.u32 x (JF BinOp.and IntKind.u64 (IntKind.u64.wrap (IntKind.i64.wrap (0 - n))) 31)) (Jz IntKind.u32 x (IntKind.u64.wrap (32 - JF BinOp.and IntKind.u64 (IntKind.u64.wrap (IntKind.i64.wrap (0 - n))) 31)))))) [] []) else none
theorem JAM (f : Nat) (x n : Int) (k : Res -> Option Res) : JL tau JvV Try.f117 (Try.f117.body.get!) JiP [.ro] 0 [.sc (.int .u32 x), .sc (.int .i64 n)] [] k = Jn4 f x n k := by kernel_rfl
theorem JvW (f : Nat) : Je (Try.f117.body.get!) JiP = [] := by kernel_rfl
theorem JvX (f : Nat) : ∀ q ∈ Je (Try.f117.body.get!) JiP, q.Ok tau Try.prog 0 := by
 rw [JvW f]; intro q hq; cases hq
theorem JqA : Try.prog.funcs[117]? = some Try.f117 := by kernel_rfl
theorem JqB : Try.f117.body = some (Try.f117.body.get!) := by kernel_rfl
theorem JqC : Enters Try.prog 117 := enters_of JqA (by kernel_rfl) JqB
def Jhd : List PV -> List Ent -> (Res -> Option Res) -> Option Res
 | [.sc (.int .u32 x), .sc (.int .i64 n)], [], k => Jn4 0 x n k
 | _, _, _ => none
def JAN : Sig := { own := [], run := Jhd }
theorem JvY : Jh tau Try.prog 117 JAN := JY Jq Jn3 Js JqA JqB JiP [.ro] 0 [] Jhd (JvX 0) fun xs es k res hr => by
 unfold Jhd at hr
 split at hr
 · exact ⟨rfl, 0, (JAM 0 _ _  _).trans hr⟩
 · cases hr
def F96 : Fns := F0
theorem Jst : Jy tau Try.prog F96 := JE
def Jn5 : An := (.seq .leaf (.seq .leaf .leaf))
def g96 (f : Nat) (x n : Int) (k : Res -> Option Res) : Option Res := bif decide (0 <= n) && true then bif decide (0 <= IntKind.u64.wrap (32 - n)) && true then k (Res.mk (.sc (.int .u32 (JF BinOp.or IntKind.u32 (Jz IntKind.u32 x n) (Xx IntKind.u32 x (IntKind.u64.wrap (32 - n)))))) [] []) else none else none
theorem e96 (f : Nat) (x n : Int) (k : Res -> Option Res) : JL tau F96 Try.f96 (Try.f96.body.get!) Jn5 [.ro] 0 [.sc (.int .u32 x), .sc (.int .u64 n)] [] k = g96 f x n k := by kernel_rfl
theorem JAO (f : Nat) : Je (Try.f96.body.get!) Jn5 = [] := by kernel_rfl
theorem JAP (f : Nat) : ∀ q ∈ Je (Try.f96.body.get!) Jn5, q.Ok tau Try.prog 0 := by
 rw [JAO f]; intro q hq; cases hq
theorem JvZ : Try.prog.funcs[96]? = some Try.f96 := by kernel_rfl
theorem Jv0 : Try.f96.body = some (Try.f96.body.get!) := by kernel_rfl
theorem JAQ : Enters Try.prog 96 := enters_of JvZ (by kernel_rfl) Jv0
def Jlo : List PV -> List Ent -> (Res -> Option Res) -> Option Res
 | [.sc (.int .u32 x), .sc (.int .u64 n)], [], k => g96 0 x n k
 | _, _, _ => none
def s96 : Sig := { own := [], run := Jlo }
theorem JAR : Jh tau Try.prog 96 s96 := JY Jq Jst Js JvZ Jv0 Jn5 [.ro] 0 [] Jlo (JAP 0) fun xs es k res hr => by
 unfold Jlo at hr
 split at hr
 · exact ⟨rfl, 0, (e96 0 _ _  _).trans hr⟩
 · cases hr
-- FN sha.right | ref2.rot
def rr (x n : Int) : Int := JF .or .u32 (Xx .u32 x (32 - n)) (Jz .u32 x n)
theorem Jec (x y : Int) : JF .or .u32 x y = JF .or .u32 y x := by
 simp only [JF]; rw [BitVec.or_comm]
theorem Jlp {P : Int -> Prop} (h : ∀ m : Nat, m < 31 -> P ((m : Int) + 1)) (n : Int) (h1 : 1 <= n) (h2 : n <= 31) : P n := by
 have := h (n - 1).toNat (by omega)
 have he : (((n - 1).toNat : Nat) : Int) + 1 = n := by omega
 rwa [he] at this
def Jed : List PV -> List Ent -> (Res -> Option Res) -> Option Res
 | [.sc (.int .u32 x), .sc (.int .i64 n)], [], k => bif decide (1 <= n) && decide (n <= 31) then k ⟨.sc (.int .u32 (rr x n)), [], []⟩ else none
 | _, _, _ => none
def Jlq : Sig := { own := [], run := Jed }
theorem Jhe (x : Int) (k : Res -> Option Res) (n : Int) (h1 : 1 <= n) (h2 : n <= 31) : Jn4 0 x n k = k ⟨.sc (.int .u32 (rr x n)), [], []⟩ := by
 refine Jlp (P := fun n => Jn4 0 x n k = k ⟨.sc (.int .u32 (rr x n)), [], []⟩) ?_ n h1 h2
 intro m hm
 iterate 31 (rcases m with _ | m; · kernel_rfl)
 omega
theorem Jlr : Jh tau Try.prog 117 Jlq := JvY.of fun xs es k res hr => by
 change Jed xs es k = some res at hr
 unfold Jed at hr
 split at hr
 · obtain ⟨hc, hr⟩ := JI hr
   simp only [Bool.and_eq_true, decide_eq_true_eq] at hc
   exact (Jhe _ _ _ hc.1 hc.2).trans hr
 · cases hr
def Jhf : List PV -> List Ent -> (Res -> Option Res) -> Option Res
 | [.sc (.int .u32 x), .sc (.int .u64 n)], [], k => bif decide (1 <= n) && decide (n <= 31) then k ⟨.sc (.int .u32 (rr x n)), [], []⟩ else none
 | _, _, _ => none
def Jv1 : Sig := { own := [], run := Jhf }
theorem Jkf (x : Int) (k : Res -> Option Res) (n : Int) (h1 : 1 <= n) (h2 : n <= 31) : g96 0 x n k = k ⟨.sc (.int .u32 (rr x n)), [], []⟩ := by
 have hc : ∀ n, rr x n = JF .or .u32 (Jz .u32 x n) (Xx .u32 x (32 - n)) := fun n => Jec _ _
 rw [hc]
 refine Jlp (P := fun n => g96 0 x n k = k ⟨.sc (.int .u32 (JF .or .u32 (Jz .u32 x n) (Xx .u32 x (32 - n)))), [], []⟩) ?_ n h1 h2
 intro m hm
 iterate 31 (rcases m with _ | m; · kernel_rfl)
 omega
theorem Jv2 : Jh tau Try.prog 96 Jv1 := JAR.of fun xs es k res hr => by
 change Jhf xs es k = some res at hr
 unfold Jhf at hr
 split at hr
 · obtain ⟨hc, hr⟩ := JI hr
   simp only [Bool.and_eq_true, decide_eq_true_eq] at hc
   exact (Jkf _ _ _ hc.1 hc.2).trans hr
 · cases hr
def XO : Nat := 89
def JfB : Fns := JH 117 Jlq (F0)
theorem Jee : Jy tau Try.prog JfB := (JE).add Jlr JqC
def GX : Code := Qn (Try.f115.body.get!) [1, 1, 0, 1, 0, 0]
def WA : Nm := [(0, .any), (2, .any), (3, .any), (8, .any)]
def Xl : Nm := [(2, .any), (3, .any)]
def JbJ : An := (.seq .leaf (.seq (.cond .leaf .leaf) (.seq (.block none (.seq .leaf .leaf)) .leaf)))
def GY : Code := Qn (Try.f115.body.get!) [1, 1, 1, 0, 1, 0, 0]
def WB : Nm := [(2, .any), (3, .any), (5, .any)]
def Xm : Nm := [(2, .any), (3, .any)]
def JbK : An := (.seq (.seq .leaf (.cond .leaf .leaf)) (.seq (.block none (.seq .leaf .leaf)) .leaf))
def Jls (r0 : QV) (r1 : QV) : An := (.seq .leaf (.seq .leaf (.seq (.seq .leaf (.block none (.sum WA XO r0))) (.seq (.seq .leaf (.block none (.sum WB XO r1))) (.seq .leaf .leaf)))))
def Y2 (f : Nat) (rc : Bool -> Bool -> List PV -> Int -> List PV -> List PV -> Option Res) (k0 : List PV -> List PV -> Option Res) (v0 v1 : Bool) (v2 : List PV) (v3 : Int) (v4 v5 : List PV) : Option Res := bif decide (v3 < 16) then bif decide (0 <= IntKind.i64.wrap (4 * v3)) && decide (IntKind.i64.wrap (4 * v3) < zi v2.length) && PV.isInt IntKind.u8 (v2.getD (IntKind.i64.wrap (4 * v3)).toNat PV.top) && true then bif decide (0 <= IntKind.i64.wrap (IntKind.i64.wrap (4 * v3) + 1)) && decide (IntKind.i64.wrap (IntKind.i64.wrap (4 * v3) + 1) < zi v2.length) && PV.isInt IntKind.u8 (v2.getD (IntKind.i64.wrap (IntKind.i64.wrap (4 * v3) + 1)).toNat PV.top) && true then bif decide (0 <= IntKind.i64.wrap (IntKind.i64.wrap (4 * v3) + 2)) && decide (IntKind.i64.wrap (IntKind.i64.wrap (4 * v3) + 2) < zi v2.length) && PV.isInt IntKind.u8 (v2.getD (IntKind.i64.wrap (IntKind.i64.wrap (4 * v3) + 2)).toNat PV.top) && true then bif decide (0 <= IntKind.i64.wrap (IntKind.i64.wrap (4 * v3) + 3)) && decide (IntKind.i64.wrap (IntKind.i64.wrap (4 * v3) + 3) < zi v2.length) && PV.isInt IntKind.u8 (v2.getD (IntKind.i64.wrap (IntKind.i64.wrap (4 * v3) + 3)).toNat PV.top) && true then bif decide (0 <= v3) && decide (v3 < zi 64) && true then rc v0 v1 v2 (IntKind.i64.wrap (v3 + 1)) v4 (v5.set v3.toNat (.sc (.int .u32 (JF BinOp.or IntKind.u32 (JF BinOp.or IntKind.u32 (JF BinOp.or IntKind.u32 (Xx IntKind.u32 (IntKind.u32.wrap (v2.getD (IntKind.i64.wrap (4 * v3)).toNat PV.top).int) 24) (Xx IntKind.u32 (IntKind.u32.wrap (v2.getD (IntKind.i64.wrap (IntKind.i64.wrap (4 * v3) + 1)).toNat PV.top).int) 16)) (Xx IntKind.u32 (IntKind.u32.wrap (v2.getD (IntKind.i64.wrap (IntKind.i64.wrap (4 * v3) + 2)).toNat PV.top).int) 8)) (IntKind.u32.wrap (v2.getD (IntKind.i64.wrap (IntKind.i64.wrap (4 * v3) + 3)).toNat PV.top).int))))) else none else none else none else none else none else k0 v4 v5
def Xn (f : Nat) (k0 : List PV -> List PV -> Option Res) : Nat -> Bool -> Bool -> List PV -> Int -> List PV -> List PV -> Option Res
 | 0, _, _, _, _, _, _ => none
 | n + 1, v0, v1, v2, v3, v4, v5 => Y2 f (Xn f k0 n) k0 v0 v1 v2 v3 v4 v5
theorem Jlt (f : Nat) (k : Kont) (n : Nat) (v0 v1 : Bool) (v2 : List PV) (v3 : Int) (v4 v5 : List PV) : Jp tau 0 WA (fun s k => ev tau JfB 0 0 GX (JbJ ) s k) (n + 1) (Jc WA XO [.ro 5 v0 v1 v2, .ptr 1440 [], .ptr 1441 [], .sc (.int .i64 v3)] [(1440, .box false 159 (PV.ar 159 v4)), (1441, .box false 159 (PV.ar 159 v5))]) (Jt tau 0 Xl k) = Y2 f (fun v0 v1 v2 v3 v4 v5 => Jp tau 0 WA (fun s k => ev tau JfB 0 0 GX (JbJ ) s k) n (Jc WA XO [.ro 5 v0 v1 v2, .ptr 1440 [], .ptr 1441 [], .sc (.int .i64 v3)] [(1440, .box false 159 (PV.ar 159 v4)), (1441, .box false 159 (PV.ar 159 v5))]) (Jt tau 0 Xl k)) (fun x0 x1 => k (Ex.exit 0) (Jc Xl XO [.ptr 1440 [], .ptr 1441 []] [(1440, .box false 159 (PV.ar 159 x0)), (1441, .box false 159 (PV.ar 159 x1))])) v0 v1 v2 v3 v4 v5 := by kernel_rfl
theorem JfC (f : Nat) (k : Kont) : ∀ (n : Nat) (v0 v1 : Bool) (v2 : List PV) (v3 : Int) (v4 v5 : List PV), Jp tau 0 WA (fun s k => ev tau JfB 0 0 GX (JbJ ) s k) n (Jc WA XO [.ro 5 v0 v1 v2, .ptr 1440 [], .ptr 1441 [], .sc (.int .i64 v3)] [(1440, .box false 159 (PV.ar 159 v4)), (1441, .box false 159 (PV.ar 159 v5))]) (Jt tau 0 Xl k) = Xn f (fun x0 x1 => k (Ex.exit 0) (Jc Xl XO [.ptr 1440 [], .ptr 1441 []] [(1440, .box false 159 (PV.ar 159 x0)), (1441, .box false 159 (PV.ar 159 x1))])) n v0 v1 v2 v3 v4 v5 | 0, _, _, _, _, _, _ => rfl | n + 1, v0, v1, v2, v3, v4, v5 => (Jlt f k n v0 v1 v2 v3 v4 v5).trans (congrArg (fun r => Y2 f r (fun x0 x1 => k (Ex.exit 0) (Jc Xl XO [.ptr 1440 [], .ptr 1441 []] [(1440, .box false 159 (PV.ar 159 x0)), (1441, .box false 159 (PV.ar 159 x1))])) v0 v1 v2 v3 v4 v5) (by funext v0 v1 v2 v3 v4 v5; exact JfC f k n v0 v1 v2 v3 v4 v5))
def GZ (f : Nat) : List PV -> List (Nat × Ent) -> Kont -> Option Res
 | [.ro 5 v0 v1 v2, .ptr 1440 [], .ptr 1441 [],
 PV.sc
  (Value.int IntKind.i64
   v3)], [(1440, .box false 159 (PV.ar 159 v4)),
 (1441,
  Ent.box false 159
   (PV.ar 159
    v5))], k => Xn f (fun x0 x1 => k (Ex.exit
 0) (Jc Xl XO [.ptr 1440 [], .ptr 1441 []] [(1440, .box false 159 (PV.ar 159 x0)), (1441, .box false 159 (PV.ar 159 x1))])) f v0 v1 v2 v3 v4 v5
 | _, _, _ => none
theorem Jn6 (f : Nat) : Je GX JbJ = [] := by kernel_rfl
theorem Jn7 (f : Nat) : (Item.l GX WA XO (GZ f)).Ok tau Try.prog 0 := JJ Jq Jee Js (x := JbJ) (nm2 := Xl) (Jl _ _ (by rw [Jn6 f]; intro q hq; cases hq)) fun vs hp k res hr => by
 unfold GZ at hr
 split at hr
 · exact ⟨f, 0, (JfC f _ f _ _ _ _ _ _ ).trans hr⟩
 · cases hr
def Y3 (f : Nat) (rc : Int -> List PV -> List PV -> Option Res) (k0 : List PV -> List PV -> Option Res) (v0 : Int) (v1 v2 : List PV) : Option Res := bif decide (v0 < 64) then bif decide (0 <= IntKind.i64.wrap (v0 - 15)) && decide (IntKind.i64.wrap (v0 - 15) < zi 64) && true then bif PV.isInt IntKind.u32 (Jk (PV.ar 159 v2) [(IntKind.i64.wrap (v0 - 15)).toNat]) && true then bif decide (0 <= IntKind.i64.wrap (v0 - 2)) && decide (IntKind.i64.wrap (v0 - 2) < zi 64) && true then bif PV.isInt IntKind.u32 (Jk (PV.ar 159 v2) [(IntKind.i64.wrap (v0 - 2)).toNat]) && true then bif decide (0 <= IntKind.i64.wrap (v0 - 16)) && decide (IntKind.i64.wrap (v0 - 16) < zi 64) && true then bif PV.isInt IntKind.u32 (Jk (PV.ar 159 v2) [(IntKind.i64.wrap (v0 - 16)).toNat]) && true then bif decide (0 <= IntKind.i64.wrap (v0 - 7)) && decide (IntKind.i64.wrap (v0 - 7) < zi 64) && true then bif PV.isInt IntKind.u32 (Jk (PV.ar 159 v2) [(IntKind.i64.wrap (v0 - 7)).toNat]) && true then bif decide (0 <= v0) && decide (v0 < zi 64) && true then rc (IntKind.i64.wrap (v0 + 1)) v1 (v2.set v0.toNat (.sc (.int .u32 (IntKind.u32.wrap (IntKind.u32.wrap (IntKind.u32.wrap ((Jk (PV.ar 159 v2) [(IntKind.i64.wrap (v0 - 16)).toNat]).int + JF BinOp.xor IntKind.u32 (JF BinOp.xor IntKind.u32 (rr (Jk (PV.ar 159 v2) [(IntKind.i64.wrap (v0 - 15)).toNat]).int 7) (rr (Jk (PV.ar 159 v2) [(IntKind.i64.wrap (v0 - 15)).toNat]).int 18)) (Jz IntKind.u32 (Jk (PV.ar 159 v2) [(IntKind.i64.wrap (v0 - 15)).toNat]).int 3)) + (Jk (PV.ar 159 v2) [(IntKind.i64.wrap (v0 - 7)).toNat]).int) + JF BinOp.xor IntKind.u32 (JF BinOp.xor IntKind.u32 (rr (Jk (PV.ar 159 v2) [(IntKind.i64.wrap (v0 - 2)).toNat]).int 17) (rr (Jk (PV.ar 159 v2) [(IntKind.i64.wrap (v0 - 2)).toNat]).int 19)) (Jz IntKind.u32 (Jk (PV.ar 159 v2) [(IntKind.i64.wrap (v0 - 2)).toNat]).int 10)))))) else none else none else none else none else none else none else none else none else none else k0 v1 v2
def Xo (f : Nat) (k0 : List PV -> List PV -> Option Res) : Nat -> Int -> List PV -> List PV -> Option Res
 | 0, _, _, _ => none
 | n + 1, v0, v1, v2 => Y3 f (Xo f k0 n) k0 v0 v1 v2
theorem Jlu (f : Nat) (k : Kont) (n : Nat) (v0 : Int) (v1 v2 : List PV) : Jp tau 0 WB (fun s k => ev tau JfB 0 0 GY (JbK ) s k) (n + 1) (Jc WB XO [.ptr 1440 [], .ptr 1441 [], .sc (.int .i64 v0)] [(1440, .box false 159 (PV.ar 159 v1)), (1441, .box false 159 (PV.ar 159 v2))]) (Jt tau 0 Xm k) = Y3 f (fun v0 v1 v2 => Jp tau 0 WB (fun s k => ev tau JfB 0 0 GY (JbK ) s k) n (Jc WB XO [.ptr 1440 [], .ptr 1441 [], .sc (.int .i64 v0)] [(1440, .box false 159 (PV.ar 159 v1)), (1441, .box false 159 (PV.ar 159 v2))]) (Jt tau 0 Xm k)) (fun x0 x1 => k (Ex.exit 2) (Jc Xm XO [.ptr 1440 [], .ptr 1441 []] [(1440, .box false 159 (PV.ar 159 x0)), (1441, .box false 159 (PV.ar 159 x1))])) v0 v1 v2 := by kernel_rfl
theorem JfD (f : Nat) (k : Kont) : ∀ (n : Nat) (v0 : Int) (v1 v2 : List PV), Jp tau 0 WB (fun s k => ev tau JfB 0 0 GY (JbK ) s k) n (Jc WB XO [.ptr 1440 [], .ptr 1441 [], .sc (.int .i64 v0)] [(1440, .box false 159 (PV.ar 159 v1)), (1441, .box false 159 (PV.ar 159 v2))]) (Jt tau 0 Xm k) = Xo f (fun x0 x1 => k (Ex.exit 2) (Jc Xm XO [.ptr 1440 [], .ptr 1441 []] [(1440, .box false 159 (PV.ar 159 x0)), (1441, .box false 159 (PV.ar 159 x1))])) n v0 v1 v2 | 0, _, _, _ => rfl | n + 1, v0, v1, v2 => (Jlu f k n v0 v1 v2).trans (congrArg (fun r => Y3 f r (fun x0 x1 => k (Ex.exit 2) (Jc Xm XO [.ptr 1440 [], .ptr 1441 []] [(1440, .box false 159 (PV.ar 159 x0)), (1441, .box false 159 (PV.ar 159 x1))])) v0 v1 v2) (by funext v0 v1 v2; exact JfD f k n v0 v1 v2))
def G0 (f : Nat) : List PV -> List (Nat × Ent) -> Kont -> Option Res
 | [.ptr 1440 [], .ptr 1441 [],
 PV.sc
  (Value.int IntKind.i64
   v0)], [(1440, .box false 159 (PV.ar 159 v1)),
 (1441,
  Ent.box false 159
   (PV.ar 159
    v2))], k => Xo f (fun x0 x1 => k (Ex.exit
 2) (Jc Xm XO [.ptr 1440 [], .ptr 1441 []] [(1440, .box false 159 (PV.ar 159 x0)), (1441, .box false 159 (PV.ar 159 x1))])) f v0 v1 v2
 | _, _, _ => none
theorem Jn8 (f : Nat) : Je GY JbK = [] := by kernel_rfl
theorem Jn9 (f : Nat) : (Item.l GY WB XO (G0 f)).Ok tau Try.prog 0 := JJ Jq Jee Js (x := JbK) (nm2 := Xm) (Jl _ _ (by rw [Jn8 f]; intro q hq; cases hq)) fun vs hp k res hr => by
 unfold G0 at hr
 split at hr
 · exact ⟨f, 0, (JfD f _ f _ _ _ ).trans hr⟩
 · cases hr
def Jv3 (f : Nat) (b_z b_f : Bool) (b : List PV) (k : Res -> Option Res) : Option Res := Xn f (fun x0_0 x1_0 => Xo f (fun x0_1 x1_1 => k (Res.mk (.ar 159 x1_1) [] [])) f (16) x0_0 x1_0) f b_z b_f b (0) ([.sc (.int .u32 0), .sc (.int .u32 0), .sc (.int .u32 0), .sc (.int .u32 0), .sc (.int .u32 0), .sc (.int .u32 0), .sc (.int .u32 0), .sc (.int .u32 0), .sc (.int .u32 0), .sc (.int .u32 0), .sc (.int .u32 0), .sc (.int .u32 0), .sc (.int .u32 0), .sc (.int .u32 0), .sc (.int .u32 0), .sc (.int .u32 0), .sc (.int .u32 0), .sc (.int .u32 0), .sc (.int .u32 0), .sc (.int .u32 0), .sc (.int .u32 0), .sc (.int .u32 0), .sc (.int .u32 0), .sc (.int .u32 0), .sc (.int .u32 0), .sc (.int .u32 0), .sc (.int .u32 0), .sc (.int .u32 0), .sc (.int .u32 0), .sc (.int .u32 0), .sc (.int .u32 0), .sc (.int .u32 0), .sc (.int .u32 0), .sc (.int .u32 0), .sc (.int .u32 0), .sc (.int .u32 0), .sc (.int .u32 0), .sc (.int .u32 0), .sc (.int .u32 0), .sc (.int .u32 0), .sc (.int .u32 0), .sc (.int .u32 0), .sc (.int .u32 0), .sc (.int .u32 0), .sc (.int .u32 0), .sc (.int .u32 0), .sc (.int .u32 0), .sc (.int .u32 0), .sc (.int .u32 0), .sc (.int .u32 0), .sc (.int .u32 0), .sc (.int .u32 0), .sc (.int .u32 0), .sc (.int .u32 0), .sc (.int .u32 0), .sc (.int .u32 0), .sc (.int .u32 0), .sc (.int .u32 0), .sc (.int .u32 0), .sc (.int .u32 0), .sc (.int .u32 0), .sc (.int .u32 0), .sc (.int .u32 0), .sc (.int .u32 0)]) ([.sc (.int .u32 0), .sc (.int .u32 0), .sc (.int .u32 0), .sc (.int .u32 0), .sc (.int .u32 0), .sc (.int .u32 0), .sc (.int .u32 0), .sc (.int .u32 0), .sc (.int .u32 0), .sc (.int .u32 0), .sc (.int .u32 0), .sc (.int .u32 0), .sc (.int .u32 0), .sc (.int .u32 0), .sc (.int .u32 0), .sc (.int .u32 0), .sc (.int .u32 0), .sc (.int .u32 0), .sc (.int .u32 0), .sc (.int .u32 0), .sc (.int .u32 0), .sc (.int .u32 0), .sc (.int .u32 0), .sc (.int .u32 0), .sc (.int .u32 0), .sc (.int .u32 0), .sc (.int .u32 0), .sc (.int .u32 0), .sc (.int .u32 0), .sc (.int .u32 0), .sc (.int .u32 0), .sc (.int .u32 0), .sc (.int .u32 0), .sc (.int .u32 0), .sc (.int .u32 0), .sc (.int .u32 0), .sc (.int .u32 0), .sc (.int .u32 0), .sc (.int .u32 0), .sc (.int .u32 0), .sc (.int .u32 0), .sc (.int .u32 0), .sc (.int .u32 0), .sc (.int .u32 0), .sc (.int .u32 0), .sc (.int .u32 0), .sc (.int .u32 0), .sc (.int .u32 0), .sc (.int .u32 0), .sc (.int .u32 0), .sc (.int .u32 0), .sc (.int .u32 0), .sc (.int .u32 0), .sc (.int .u32 0), .sc (.int .u32 0), .sc (.int .u32 0), .sc (.int .u32 0), .sc (.int .u32 0), .sc (.int .u32 0), .sc (.int .u32 0), .sc (.int .u32 0), .sc (.int .u32 0), .sc (.int .u32 0), .sc (.int .u32 0)])
theorem JAS (f : Nat) (b_z b_f : Bool) (b : List PV) (k : Res -> Option Res) : JL tau JfB Try.f115 (Try.f115.body.get!) (Jls (GZ f) (G0 f)) [] 0 [.ro 5 b_z b_f b] [] k = Jv3 f b_z b_f b k := by kernel_rfl
theorem Jv4 (f : Nat) : Je (Try.f115.body.get!) (Jls (GZ f) (G0 f)) = [.l GX WA XO (GZ f), .l GY WB XO (G0 f)] := by kernel_rfl
theorem Jv5 (f : Nat) : ∀ q ∈ Je (Try.f115.body.get!) (Jls (GZ f) (G0 f)), q.Ok tau Try.prog 0 := by
 rw [Jv4 f]; simp only [List.forall_mem_cons, List.not_mem_nil, false_implies, implies_true, and_true]; exact ⟨Jn7 f, Jn9 f⟩
theorem JqD : Try.prog.funcs[115]? = some Try.f115 := by kernel_rfl
theorem JqE : Try.f115.body = some (Try.f115.body.get!) := by kernel_rfl
theorem Jv6 : Enters Try.prog 115 := enters_of JqD (by kernel_rfl) JqE
-- FN sha.spread
abbrev ww (x : Int) : Int := IntKind.u32.wrap x
def Jv7 (a b c d : Int) : Int := JF .or .u32 (JF .or .u32 (JF .or .u32 (Xx .u32 (ww a) 24) (Xx .u32 (ww b) 16)) (Xx .u32 (ww c) 8)) (ww d)
def sg0 (x : Int) : Int := JF .xor .u32 (JF .xor .u32 (rr x 7) (rr x 18)) (Jz .u32 x 3)
def sg1 (x : Int) : Int := JF .xor .u32 (JF .xor .u32 (rr x 17) (rr x 19)) (Jz .u32 x 10)
def Jsu (w16 w15 w7 w2 : Int) : Int := ww (ww (ww (w16 + sg0 w15) + w7) + sg1 w2)
def word (bs : List Int) (j : Nat) : Int := Jv7 (bs.getD (4 * j) 0) (bs.getD (4 * j + 1) 0) (bs.getD (4 * j + 2) 0) (bs.getD (4 * j + 3) 0)
def Qz (bs : List Int) : Nat -> List Int
 | 0 => (List.range 16).map (word bs)
 | i + 1 => Qz bs i ++ [Jsu ((Qz bs i).getD i 0) ((Qz bs i).getD (i + 1) 0) ((Qz bs i).getD (i + 9) 0) ((Qz bs i).getD (i + 14) 0)]
def Qb (bs : List Int) : List Int := Qz bs 48
theorem J8 (bs : List Int) : ∀ i, (Qz bs i).length = 16 + i
 | 0 => by simp [Qz]
 | i + 1 => by simp [Qz, J8 bs i]; omega
def JbL (bs : List Int) (i : Nat) : List Int := (List.range i).map (word bs) ++ List.replicate (64 - i) 0
def Jax (bs : List Int) (i : Nat) : List Int := Qz bs i ++ List.replicate (48 - i) 0
theorem Jef (bs : List Int) (i : Nat) (h : i <= 48) : (Jax bs i).length = 64 := by simp [Jax, J8]; omega
theorem JfE (L : List Int) (m : Nat) (x : Int) : (L ++ List.replicate (m + 1) 0).set L.length x = (L ++ [x]) ++ List.replicate m 0 := by
 simp [List.replicate_succ]
theorem Jkg (bs : List Int) (i : Nat) (h : i < 64) : (JbL bs i).set i (word bs i) = JbL bs (i + 1) := by
 have := JfE ((List.range i).map (word bs)) (63 - i) (word bs i)
 simp only [List.length_map, List.length_range] at this
 simp only [JbL, show 64 - i = 63 - i + 1 from by omega, this, show 64 - (i + 1) = 63 - i from by omega, List.range_succ, List.map_append, List.map_cons, List.map_nil]
theorem ZR (bs : List Int) (i j : Nat) (h : j < 16 + i) : (Jax bs i).getD j 0 = (Qz bs i).getD j 0 := by
 simp only [Jax, List.getD_eq_getElem?_getD]
 rw [List.getElem?_append_left (by rw [J8]; exact h)]
theorem Jkh (bs : List Int) (i : Nat) (h : i < 48) (x : Int) : (Jax bs i).set (i + 16) x = (Qz bs i ++ [x]) ++ List.replicate (48 - (i + 1)) 0 := by
 have := JfE (Qz bs i) (47 - i) x
 rw [J8] at this
 rw [Jax, show 48 - i = 47 - i + 1 from by omega, show i + 16 = 16 + i from by omega, this, show 48 - (i + 1) = 47 - i from by omega]
theorem Jlv (bs : List Int) (hb : bs.length = 64) (f : Nat) (k0 : List PV -> List PV -> Option Res) (nl fl : Bool) (w : List PV) : ∀ (d i n : Nat), i + d = 16 -> d < n ->
  Xn f k0 n nl fl (pu .u8 bs) (i : Int) w (pu .u32 (JbL bs i)) = k0 w (pu .u32 (JbL bs 16))
 | 0, i, n + 1, h, hn => by
   obtain rfl : i = 16 := by omega
   simp only [Xn, Y2]
   exact Jj (by decide)
 | d + 1, i, n + 1, h, hn => by
   have h4 : IntKind.i64.wrap (4 * (i : Int)) = ((4 * i : Nat) : Int) := by rw [wrap_i64 (by omega) (by omega)]; omega
   have h41 : IntKind.i64.wrap (((4 * i : Nat) : Int) + 1) = ((4 * i + 1 : Nat) : Int) := by rw [wrap_i64 (by omega) (by omega)]; omega
   have h42 : IntKind.i64.wrap (((4 * i : Nat) : Int) + 2) = ((4 * i + 2 : Nat) : Int) := by rw [wrap_i64 (by omega) (by omega)]; omega
   have h43 : IntKind.i64.wrap (((4 * i : Nat) : Int) + 3) = ((4 * i + 3 : Nat) : Int) := by rw [wrap_i64 (by omega) (by omega)]; omega
   have h5 : IntKind.i64.wrap ((i : Int) + 1) = ((i + 1 : Nat) : Int) := by rw [wrap_i64 (by omega) (by omega)]; omega
   simp only [Xn, Y2, h4, h41, h42, h43, h5, Int.toNat_natCast, zi]
   rw [J5 (by omega), J5 (by omega), J5 (by omega), J5 (by omega), Qu (by omega), Qu (by omega), Qu (by omega), Qu (by omega), JD, W5]
   refine (Ja (by simp; omega)).trans ?_
   refine (Ja (by simp; omega)).trans ?_
   refine (Ja (by simp; omega)).trans ?_
   refine (Ja (by simp; omega)).trans ?_
   refine (Ja (by simp; omega)).trans ?_
   refine (Ja (by simp; omega)).trans ?_
   have := Jlv bs hb f k0 nl fl w d (i + 1) n (by omega) (by omega)
   rw [← Jkg bs i (by omega)] at this
   exact this
theorem Jlw (bs : List Int) (f : Nat) (k0 : List PV -> List PV -> Option Res) (w : List PV) : ∀ (d i n : Nat), i + d = 48 -> d < n ->
  Xo f k0 n ((i + 16 : Nat) : Int) w (pu .u32 (Jax bs i)) = k0 w (pu .u32 (Qz bs 48))
 | 0, i, n + 1, h, hn => by
   obtain rfl : i = 48 := by omega
   simp only [Xo, Y3]
   exact (Jj (by decide)).trans (by simp [Jax])
 | d + 1, i, n + 1, h, hn => by
   have h15 : IntKind.i64.wrap (((i + 16 : Nat) : Int) - 15) = ((i + 1 : Nat) : Int) := by rw [wrap_i64 (by omega) (by omega)]; omega
   have h2 : IntKind.i64.wrap (((i + 16 : Nat) : Int) - 2) = ((i + 14 : Nat) : Int) := by rw [wrap_i64 (by omega) (by omega)]; omega
   have h16 : IntKind.i64.wrap (((i + 16 : Nat) : Int) - 16) = ((i : Nat) : Int) := by rw [wrap_i64 (by omega) (by omega)]; omega
   have h7 : IntKind.i64.wrap (((i + 16 : Nat) : Int) - 7) = ((i + 9 : Nat) : Int) := by rw [wrap_i64 (by omega) (by omega)]; omega
   have h1 : IntKind.i64.wrap (((i + 16 : Nat) : Int) + 1) = ((i + 1 + 16 : Nat) : Int) := by rw [wrap_i64 (by omega) (by omega)]; omega
   have hl := Jef bs i (by omega)
   simp only [Xo, Y3, h15, h2, h16, h7, h1, Int.toNat_natCast, zi, Xi]
   rw [J5 (by omega), J5 (by omega), J5 (by omega), J5 (by omega), Qu (by omega), Qu (by omega), Qu (by omega), Qu (by omega), W5]
   refine (Ja (by simp; omega)).trans ?_
   refine (Ja (by simp; omega)).trans ?_
   refine (Ja (by simp)).trans ?_
   refine (Ja (by simp; omega)).trans ?_
   refine (Ja (by simp)).trans ?_
   refine (Ja (by simp; omega)).trans ?_
   refine (Ja (by simp)).trans ?_
   refine (Ja (by simp; omega)).trans ?_
   refine (Ja (by simp)).trans ?_
   refine (Ja (by simp; omega)).trans ?_
   have := Jlw bs f k0 w d (i + 1) n (by omega) (by omega)
   rw [ZR bs i i (by omega), ZR bs i (i + 1) (by omega), ZR bs i (i + 9) (by omega), ZR bs i (i + 14) (by omega), Jkh bs i (by omega)]
   exact this
theorem Joa (bs : List Int) (hb : bs.length = 64) (nl fl : Bool) (k : Res -> Option Res) : Jv3 100 nl fl (pu .u8 bs) k = k ⟨.ar 159 (pu .u32 (Qb bs)), [], []⟩ := by
 have h0 : ∀ k0 w, Xn 100 k0 100 nl fl (pu .u8 bs) 0 w (pu .u32 (List.replicate 64 0)) = k0 w (pu .u32 (JbL bs 16)) := fun k0 w => Jlv bs hb 100 k0 nl fl w 16 0 100 (by omega) (by omega)
 have h1 : ∀ k0 w, Xo 100 k0 100 16 w (pu .u32 (JbL bs 16)) = k0 w (pu .u32 (Qz bs 48)) := fun k0 w => Jlw bs 100 k0 w 48 0 100 (by omega) (by omega)
 exact (h0 _ _).trans (h1 _ _)
def Jeg : List PV -> List Ent -> (Res -> Option Res) -> Option Res
 | [.ro 5 nl fl b], [], k => bif Jo .u8 b && decide (b.length = 64) then k ⟨.ar 159 (pu .u32 (Qb (JA b))), [], []⟩ else none
 | _, _, _ => none
def JqF : Sig := { own := [], run := Jeg }
theorem Jsv : Jh tau Try.prog 115 JqF := JY Jq Jee Js JqD JqE _ [] 0 [] Jeg (Jv5 100) fun xs es k res hr => by
 unfold Jeg at hr
 split at hr
 · obtain ⟨hc, hr⟩ := JI hr
   simp only [Bool.and_eq_true, decide_eq_true_eq] at hc
   refine ⟨rfl, 0, (JAS 100 _ _ _ _).trans ?_⟩
   rw [Qk hc.1, Joa _ (by simpa using hc.2)]
   exact hr
 · cases hr
def Qv (g : Nat -> Int) (t : List Int) (i : Nat) : List Int := (List.range i).map g ++ t.drop i
theorem QN (g : Nat -> Int) (t : List Int) : Qv g t 0 = t := by simp [Qv]
theorem Wa (g : Nat -> Int) (t : List Int) : Qv g t t.length = (List.range t.length).map g := by simp [Qv]
theorem V0 (g : Nat -> Int) (t : List Int) (i : Nat) (h : i <= t.length) : (Qv g t i).length = t.length := by simp [Qv]; omega
theorem Qs (g : Nat -> Int) (t : List Int) (i : Nat) (h : i < t.length) : (Qv g t i).set i (g i) = Qv g t (i + 1) := by
 rw [Qv, List.set_append_right _ _ (by simp), List.drop_eq_getElem_cons h, List.length_map, List.length_range, Nat.sub_self, List.set_cons_zero]
 simp [Qv, List.range_succ]
theorem JcX (g : Nat -> Int) (t : List Int) (i : Nat) (h : i < t.length) : (Qv g t i).getD i 0 = t.getD i 0 := by
 simp only [Qv, List.getD_eq_getElem?_getD]
 rw [List.getElem?_append_right (by simp)]
 simp
def kks : List Int := [1116352408, 1899447441, 3049323471, 3921009573, 961987163, 1508970993, 2453635748, 2870763221, 3624381080, 310598401, 607225278, 1426881987, 1925078388, 2162078206, 2614888103, 3248222580, 3835390401, 4022224774, 264347078, 604807628, 770255983, 1249150122, 1555081692, 1996064986, 2554220882, 2821834349, 2952996808, 3210313671, 3336571891, 3584528711, 113926993, 338241895, 666307205, 773529912, 1294757372, 1396182291, 1695183700, 1986661051, 2177026350, 2456956037, 2730485921, 2820302411, 3259730800, 3345764771, 3516065817, 3600352804, 4094571909, 275423344, 430227734, 506948616, 659060556, 883997877, 958139571, 1322822218, 1537002063, 1747873779, 1955562222, 2024104815, 2227730452, 2361852424, 2428436474, 2756734187, 3204031479, 3329325298]
def iv : List Int := [1779033703, 3144134277, 1013904242, 2773480762, 1359893119, 2600822924, 528734635, 1541459225]
def xW (k w h e f g : Int) : Int := ww (ww (ww (ww (h + JF .xor .u32 (JF .xor .u32 (rr e 6) (rr e 11)) (rr e 25)) + JF .xor .u32 (JF .and .u32 e f) (JF .and .u32 (JF .xor .u32 (Int.ofNat (2 ^ IntKind.u32.bits - Nat.succ 0)) e) g)) + k) + w)
def yW (a b c : Int) : Int := ww (JF .xor .u32 (JF .xor .u32 (rr a 2) (rr a 13)) (rr a 22) + JF .xor .u32 (JF .xor .u32 (JF .and .u32 a b) (JF .and .u32 a c)) (JF .and .u32 b c))
def rnd (k w : Int) (t : List Int) : List Int :=
 [ww (xW k w (t.getD 7 0) (t.getD 4 0) (t.getD 5 0) (t.getD 6 0) + yW (t.getD 0 0) (t.getD 1 0) (t.getD 2 0)), t.getD 0 0, t.getD 1 0, t.getD 2 0,
  ww (t.getD 3 0 + xW k w (t.getD 7 0) (t.getD 4 0) (t.getD 5 0) (t.getD 6 0)), t.getD 4 0, t.getD 5 0, t.getD 6 0]
def G1 (W s : List Int) : Nat -> List Int
 | 0 => s
 | i + 1 => rnd (kks.getD i 0) (W.getD i 0) (G1 W s i)
theorem Xp (W s : List Int) (h : s.length = 8) : ∀ i, (G1 W s i).length = 8
 | 0 => h
 | i + 1 => rfl
def Jhg (s bs : List Int) : List Int := (List.range 8).map fun i => ww ((G1 (Qb bs) s 64).getD i 0 + s.getD i 0)
theorem JfF (s bs : List Int) : (Jhg s bs).length = 8 := by simp [Jhg]
def W8 (s b : List Int) : Nat -> List Int
 | 0 => s
 | n + 1 => Jhg (W8 s b n) ((b.drop (64 * n)).take 64)
theorem WC (s b : List Int) (h : s.length = 8) : ∀ n, (W8 s b n).length = 8
 | 0 => h
 | n + 1 => JfF _ _
def zs (m : Nat) : Nat := (120 - m % 64) % 64
def Job (n : Nat) : List Int := (List.range 8).map fun (i : Nat) => IntKind.u8.wrap (Jz .u64 (IntKind.u64.wrap (IntKind.u64.wrap (n : Int) * 8)) (56 - 8 * (i : Int)))
def QB (bs : List Int) : List Int := (bs ++ [128] ++ List.replicate (zs (bs.length + 1)) 0) ++ Job bs.length
theorem Jay (bs : List Int) : (QB bs).length = 64 * ((QB bs).length / 64) := by
 have : (QB bs).length = bs.length + 1 + zs (bs.length + 1) + 8 := by simp [QB, Job]; omega
 rw [this]; unfold zs; omega
def YJ (s : List Int) (i : Nat) : Int := IntKind.u8.wrap (Jz .u32 (s.getD (i / 4) 0) (24 - 8 * ((i % 4 : Nat) : Int)))
def Jlx (s : List Int) : List Int := (List.range 32).map (YJ s)
def JiQ (bs : List Int) : List Int := Jlx (W8 iv (QB bs) ((QB bs).length / 64))
def JU (bs : List Int) : List Int := bif Nat.ble bs.length bs.length then JiQ bs else []
theorem Ja3 (bs : List Int) : JU bs = JiQ bs := by
 have : Nat.ble bs.length bs.length = true := by rw [Nat.ble_eq]; exact Nat.le_refl _
 rw [JU, this]; rfl
theorem Qh (bs : List Int) : (JU bs).length = 32 := by simp [Ja3, JiQ, Jlx]
theorem JbM (n : Nat) : (zi n).tmod 64 = ((n % 64 : Nat) : Int) := by
 show (n : Int).tmod 64 = _
 rw [Int.tmod_eq_emod_of_nonneg (by omega)]; omega
-- FN ref8.Hash
def G2 : Nat -> RS -> RS
 | 0, s => s
 | n + 1, s => G2 n (Qe 1 s)
def G3 : Nat -> RS -> List Int
 | 0, _ => []
 | n + 1, s => IntKind.u8.wrap (Wo 1 s) :: G3 n (Qe 1 s)
def Jki : Nat -> RT -> RT
 | 0, t => t
 | n + 1, t => Jki n (X6 1 t)
def hashS : RS -> RS := hid (G2 32)
def hashV : RS -> List Int := hid (G3 32)
def hashT : RT -> RT := hid (Jki 32)
def hashVT : RT -> List Int := hid fun t => G3 32 t.view
theorem hashS_eq (s : RS) : hashS s = G2 32 s := by rw [hashS, hid_eq]
theorem hashV_eq (s : RS) : hashV s = G3 32 s := by rw [hashV, hid_eq]
theorem hashT_eq (t : RT) : hashT t = Jki 32 t := by rw [hashT, hid_eq]
theorem hashVT_eq (t : RT) : hashVT t = G3 32 t.view := by rw [hashVT, hid_eq]
theorem Jaz : ∀ (n : Nat) (s : RS), (G3 n s).length = n
 | 0, _ => rfl
 | n + 1, s => by simp [G3, Jaz n]
@[simp] theorem hashV_length (s : RS) : (hashV s).length = 32 := by rw [hashV_eq]; exact Jaz 32 s
theorem JcY : ∀ (n : Nat) (t : RT), (Jki n t).view = G2 n t.view
 | 0, _ => rfl
 | n + 1, t => by simp only [Jki, G2, JcY n, GV]
@[simp] theorem hashT_view (t : RT) : (hashT t).view = hashS t.view := by rw [hashT_eq, hashS_eq, JcY]
@[simp] theorem hashVT_val (t : RT) : hashVT t = hashV t.view := by rw [hashVT_eq, hashV_eq]
theorem JiR : ∀ (n : Nat) {t : RT}, okT t = true -> okT (Jki n t) = true
 | 0, _, h => h
 | n + 1, t, h => JiR n (VZ h 1)
@[simp] theorem Jv8 {t : RT} (h : okT t = true) : okT (hashT t) = true := by rw [hashT_eq]; exact JiR 32 h
theorem JiS : ∀ (n : Nat) {s : RS}, byB s.b = true -> byB (G2 n s).b = true
 | 0, _, h => h
 | n + 1, s, h => JiS n (XN h 1)
-- FN wire.read
def fS : Nat -> RS -> RS
 | 0, s => s
 | 1, s => Jb 1 s
 | n + 2, s => Jb 8 (fS (n + 1) s)
def JcZ (c : Int) (s : RS) : RS := ⟨s.b, bif s.e == 0 then c else s.e⟩
def txR : Nat -> RS -> RS
 | 0, s => s
 | n + 1, s => txR n (J2 s)
def Jsw (s : RS) : Int := JB 1 (fS 13 s)
def Jv9 (s : RS) : Nat := bif decide (Jsw s > 4) then 0 else (Jsw s).toNat
def Jwa (s : RS) : RS := bif decide (Jsw s > 4) then JcZ 4 (Jb 1 (fS 13 s)) else Jb 1 (fS 13 s)
def Jsx : RS -> List Int := hid fun s => hashV (txR (Jv9 s) (Jwa s))
theorem Joc (s : RS) : Jsx s = hashV (txR (Jv9 s) (Jwa s)) := by rw [Jsx, hid_eq]
@[simp] theorem JqG (s : RS) : (Jsx s).length = 32 := by rw [Joc]; exact hashV_length _
theorem Qq {s : RS} (h : byB s.b = true) (n : Nat) : byB (Jb n s).b = true := by rw [W7]; exact XN h n
theorem JiT {s : RS} (h : byB s.b = true) : byB (J2 s).b = true := by rw [Ja1]; exact XN (XN h 2) _
theorem Y4 : ∀ l : List PV, (Jm l).length = l.length
 | [] => rfl
 | p :: ps => by simp [Jm, Y4 ps]
theorem Jkj {s : RS} (h : byB s.b = true) : (JT s).size <= 65535 := by
 rw [Ja2]
 show (Jm _).length <= _
 rw [Y4]
 have h1 := Vi (Wo 2 s).toNat (Qe 2 s)
 have h2 := X5 h (n := 2) (Nat.le_refl 2)
 omega
theorem JaA (t : ByteArray) : (Jg t).length = t.size := by simp only [Jg, List.length_map, Array.length_toList]; rfl
-- FN wire.check | wire.key
def WD (x m : Int) : Bool := decide (x >= 0) && decide (x <= m)
def JAT (fr to wh wn cd cu ve co ad au su er : Int) : Bool := WD fr 2 && (WD to 2 && (!(fr == to) && (WD wh 2 && (WD wn 99 && (WD cd 2 && (WD cu 7 && (WD ad 2 && (WD au 7 && (WD ve 1073741824 && (WD co 1073741824 && (WD su 1073741824 && WD er 255)))))))))))
def JAU (kd fr to wh wn cd cu ve co ad au su er : Int) : Int := bif WD (IntKind.i64.wrap (kd - 1)) 4 then (bif JAT fr to wh wn cd cu ve co ad au su er then 0 else 1) else 3
structure C13 where
 (kd fr to wh wn cd cu ve co ad au su er : Int)
def chk : C13 -> Int := hid fun c => JAU c.kd c.fr c.to c.wh c.wn c.cd c.cu c.ve c.co c.ad c.au c.su c.er
def JfG (l : List PV) (d : Int) : PV := bif WD d 2 then l.getD d.toNat .top else .ro 5 true true []
structure K3 where
 (l : List PV) (d : Int)
def Jeh : K3 -> List PV := hid fun c => (JfG c.l c.d).els
theorem JiU (c : K3) : Jeh c = (JfG c.l c.d).els := by rw [Jeh, hid_eq]
def Jwb : Fns := F0
theorem Jod : Jy tau Try.prog Jwb := JE
def JiV : An := (.seq .leaf (.seq (.seq .leaf (.cond .leaf .leaf)) (.seq (.seq .leaf (.seq .leaf (.cond .leaf .leaf))) (.seq .leaf .leaf))))
def Jwc (f : Nat) (n : Int) (k : Res -> Option Res) : Option Res := bif decide (n < 0) then none else bif decide (IntKind.i64.wrap (n - IntKind.i64.wrap (zi 0 - zi 0)) > 0) then bif decide (0 <= IntKind.i64.wrap (n - IntKind.i64.wrap (zi 0 - zi 0))) && Jf (IntKind.i64.wrap (n - IntKind.i64.wrap (zi 0 - zi 0))).toNat 1 && true then k (Res.mk (.ow 5 16 [] 0 0 none) [] [.vec false 5 (IntKind.i64.wrap (n - IntKind.i64.wrap (zi 0 - zi 0)) == 0) (List.replicate (IntKind.i64.wrap (n - IntKind.i64.wrap (zi 0 - zi 0))).toNat (.sc (.int .u8 0)))]) else none else k (Res.mk (.ro 5 true true []) [] [])
theorem JAV (f : Nat) (n : Int) (k : Res -> Option Res) : JL tau Jwb Try.f114 (Try.f114.body.get!) JiV [] 0 [.ro 5 true true [], .sc (.int .i64 n)] [] k = Jwc f n k := by kernel_rfl
theorem Jwd (f : Nat) : Je (Try.f114.body.get!) JiV = [] := by kernel_rfl
theorem Jwe (f : Nat) : ∀ q ∈ Je (Try.f114.body.get!) JiV, q.Ok tau Try.prog 0 := by
 rw [Jwd f]; intro q hq; cases hq
theorem JqH : Try.prog.funcs[114]? = some Try.f114 := by kernel_rfl
theorem JqI : Try.f114.body = some (Try.f114.body.get!) := by kernel_rfl
theorem Jwf : Enters Try.prog 114 := enters_of JqH (by kernel_rfl) JqI
def Jhh : List PV -> List Ent -> (Res -> Option Res) -> Option Res
 | [.ro 5 true true [], .sc (.int .i64 n)], [], k => Jwc 0 n k
 | _, _, _ => none
def Jwg : Sig := { own := [], run := Jhh }
theorem Jwh : Jh tau Try.prog 114 Jwg := JY Jq Jod Js JqH JqI JiV [] 0 [] Jhh (Jwe 0) fun xs es k res hr => by
 unfold Jhh at hr
 split at hr
 · exact ⟨rfl, 0, (JAV 0 _  _).trans hr⟩
 · cases hr
def N79 : Nat := 36
def F79 : Fns := JH 114 Jwg (F0)
theorem Jhi : Jy tau Try.prog F79 := (JE).add Jwh Jwf
def Jc0 : Code := Qn (Try.f79.body.get!) [1, 1, 0, 1, 0, 0]
def X8 : Nm := [(0, .any), (3, .any), (9, .any), (10, .any), (11, .any)]
def Y5 : Nm := [(0, .any), (3, .any)]
def JfH : An := (.seq .leaf (.seq (.cond .leaf .leaf) (.seq (.block none (.seq .leaf (.seq .leaf (.seq .leaf (.cond .leaf .leaf))))) .leaf)))
def Jc1 : Code := Qn (Try.f79.body.get!) [1, 1, 1, 1, 0, 1, 0, 0]
def X9 : Nm := [(6, .own), (25, .any), (26, .any), (27, .any)]
def Y6 : Nm := [(6, .any)]
def JfI : An := (.seq .leaf (.seq (.cond .leaf .leaf) (.seq (.block none (.seq .leaf .leaf)) .leaf)))
def Joe (r0 : QV) (r1 : QV) : An := (.seq .leaf (.seq .leaf (.seq (.seq .leaf (.block none (.sum X8 N79 r0))) (.seq .leaf (.seq (.seq .leaf (.block none (.sum X9 N79 r1))) (.seq .leaf .leaf))))))
def V1 (f : Nat) (rc : Bool -> Bool -> List PV -> Int -> Bool -> Bool -> List PV -> Int -> Int -> Option Res) (k0 : Bool -> Bool -> List PV -> Int -> Option Res) (v0 v1 : Bool) (v2 : List PV) (v3 : Int) (v4 v5 : Bool) (v6 : List PV) (v7 v8 : Int) : Option Res := bif decide (v8 < v7) then bif decide (0 <= v8) && decide (v8 < zi v6.length) && PV.isRo 5 (v6.getD v8.toNat PV.top) && true then bif decide (IntKind.i64.wrap (v3 + zi (v6.getD v8.toNat PV.top).els.length) < 0) then none else rc v0 v1 v2 (IntKind.i64.wrap (v3 + zi (v6.getD v8.toNat PV.top).els.length)) v4 v5 v6 v7 (IntKind.i64.wrap (v8 + 1)) else none else k0 v0 v1 v2 v3
def Vk (f : Nat) (k0 : Bool -> Bool -> List PV -> Int -> Option Res) : Nat -> Bool -> Bool -> List PV -> Int -> Bool -> Bool -> List PV -> Int -> Int -> Option Res
 | 0, _, _, _, _, _, _, _, _, _ => none
 | n + 1, v0, v1, v2, v3, v4, v5, v6, v7, v8 => V1 f (Vk f k0 n) k0 v0 v1 v2 v3 v4 v5 v6 v7 v8
theorem Jof (f : Nat) (k : Kont) (n : Nat) (v0 v1 : Bool) (v2 : List PV) (v3 : Int) (v4 v5 : Bool) (v6 : List PV) (v7 v8 : Int) : Jp tau 0 X8 (fun s k => ev tau F79 0 0 Jc0 (JfH ) s k) (n + 1) (Jc X8 N79 [.ro 29 v0 v1 v2, .sc (.int .i64 v3), .ro 29 v4 v5 v6, .sc (.int .i64 v7), .sc (.int .i64 v8)] []) (Jt tau 0 Y5 k) = V1 f (fun v0 v1 v2 v3 v4 v5 v6 v7 v8 => Jp tau 0 X8 (fun s k => ev tau F79 0 0 Jc0 (JfH ) s k) n (Jc X8 N79 [.ro 29 v0 v1 v2, .sc (.int .i64 v3), .ro 29 v4 v5 v6, .sc (.int .i64 v7), .sc (.int .i64 v8)] []) (Jt tau 0 Y5 k)) (fun x0 x1 x2 x3 => k (Ex.exit 0) (Jc Y5 N79 [.ro 29 x0 x1 x2, .sc (.int .i64 x3)] [])) v0 v1 v2 v3 v4 v5 v6 v7 v8 := by kernel_rfl
theorem JiW (f : Nat) (k : Kont) : ∀ (n : Nat) (v0 v1 : Bool) (v2 : List PV) (v3 : Int) (v4 v5 : Bool) (v6 : List PV) (v7 v8 : Int), Jp tau 0 X8 (fun s k => ev tau F79 0 0 Jc0 (JfH ) s k) n (Jc X8 N79 [.ro 29 v0 v1 v2, .sc (.int .i64 v3), .ro 29 v4 v5 v6, .sc (.int .i64 v7), .sc (.int .i64 v8)] []) (Jt tau 0 Y5 k) = Vk f (fun x0 x1 x2 x3 => k (Ex.exit 0) (Jc Y5 N79 [.ro 29 x0 x1 x2, .sc (.int .i64 x3)] [])) n v0 v1 v2 v3 v4 v5 v6 v7 v8 | 0, _, _, _, _, _, _, _, _, _ => rfl | n + 1, v0, v1, v2, v3, v4, v5, v6, v7, v8 => (Jof f k n v0 v1 v2 v3 v4 v5 v6 v7 v8).trans (congrArg (fun r => V1 f r (fun x0 x1 x2 x3 => k (Ex.exit 0) (Jc Y5 N79 [.ro 29 x0 x1 x2, .sc (.int .i64 x3)] [])) v0 v1 v2 v3 v4 v5 v6 v7 v8) (by funext v0 v1 v2 v3 v4 v5 v6 v7 v8; exact JiW f k n v0 v1 v2 v3 v4 v5 v6 v7 v8))
def JbN (f : Nat) : List PV -> List (Nat × Ent) -> Kont -> Option Res
 | [.ro 29 v0 v1 v2, .sc (.int .i64 v3), .ro 29 v4 v5 v6, .sc (.int .i64 v7),
 .sc (.int .i64 v8)], [], k => Vk f (fun x0 x1 x2 x3 => k (Ex.exit 0) (Jc Y5 N79 [.ro 29 x0 x1 x2, .sc (.int .i64 x3)] [])) f v0 v1 v2 v3 v4 v5 v6 v7 v8
 | _, _, _ => none
theorem Jsy (f : Nat) : Je Jc0 JfH = [] := by kernel_rfl
theorem Jsz (f : Nat) : (Item.l Jc0 X8 N79 (JbN f)).Ok tau Try.prog 0 := JJ Jq Jhi Js (x := JfH) (nm2 := Y5) (Jl _ _ (by rw [Jsy f]; intro q hq; cases hq)) fun vs hp k res hr => by
 unfold JbN at hr
 split at hr
 · exact ⟨f, 0, (JiW f _ f _ _ _ _ _ _ _ _ _ ).trans hr⟩
 · cases hr
def V2 (f : Nat) (rc : Nat -> Bool -> Bool -> List PV -> Int -> Int -> Bool -> List PV -> Option Res) (k0 : Nat -> Bool -> List PV -> Option Res) (v0 : Nat) (v1 v2 : Bool) (v3 : List PV) (v4 v5 : Int) (v6 : Bool) (v7 : List PV) : Option Res := bif decide (v5 < v4) then bif decide (0 <= v5) && decide (v5 < zi v3.length) && PV.isRo 5 (v3.getD v5.toNat PV.top) && true then bif Jf (v0 + (v3.getD v5.toNat PV.top).els.length) 1 && true then rc (v0 + (v3.getD v5.toNat PV.top).els.length) v1 v2 v3 v4 (IntKind.i64.wrap (v5 + 1)) (v6 && (v3.getD v5.toNat PV.top).els.isEmpty) (List.take v0 v7 ++ (v3.getD v5.toNat PV.top).els) else none else none else k0 v0 v6 v7
def Xz (f : Nat) (k0 : Nat -> Bool -> List PV -> Option Res) : Nat -> Nat -> Bool -> Bool -> List PV -> Int -> Int -> Bool -> List PV -> Option Res
 | 0, _, _, _, _, _, _, _, _ => none
 | n + 1, v0, v1, v2, v3, v4, v5, v6, v7 => V2 f (Xz f k0 n) k0 v0 v1 v2 v3 v4 v5 v6 v7
theorem Jog (f : Nat) (k : Kont) (n v0 : Nat) (v1 v2 : Bool) (v3 : List PV) (v4 v5 : Int) (v6 : Bool) (v7 : List PV) : Jp tau 0 X9 (fun s k => ev tau F79 0 0 Jc1 (JfI ) s k) (n + 1) (Jc X9 N79 [.ow 5 592 [] 0 v0 none, .ro 29 v1 v2 v3, .sc (.int .i64 v4), .sc (.int .i64 v5)] [(592, .vec false 5 v6 v7)]) (Jt tau 0 Y6 k) = V2 f (fun v0 v1 v2 v3 v4 v5 v6 v7 => Jp tau 0 X9 (fun s k => ev tau F79 0 0 Jc1 (JfI ) s k) n (Jc X9 N79 [.ow 5 592 [] 0 v0 none, .ro 29 v1 v2 v3, .sc (.int .i64 v4), .sc (.int .i64 v5)] [(592, .vec false 5 v6 v7)]) (Jt tau 0 Y6 k)) (fun x0 x1 x2 => k (Ex.exit 2) (Jc Y6 N79 [.ow 5 592 [] 0 x0 none] [(592, .vec false 5 x1 x2)])) v0 v1 v2 v3 v4 v5 v6 v7 := by kernel_rfl
theorem JiX (f : Nat) (k : Kont) : ∀ (n v0 : Nat) (v1 v2 : Bool) (v3 : List PV) (v4 v5 : Int) (v6 : Bool) (v7 : List PV), Jp tau 0 X9 (fun s k => ev tau F79 0 0 Jc1 (JfI ) s k) n (Jc X9 N79 [.ow 5 592 [] 0 v0 none, .ro 29 v1 v2 v3, .sc (.int .i64 v4), .sc (.int .i64 v5)] [(592, .vec false 5 v6 v7)]) (Jt tau 0 Y6 k) = Xz f (fun x0 x1 x2 => k (Ex.exit 2) (Jc Y6 N79 [.ow 5 592 [] 0 x0 none] [(592, .vec false 5 x1 x2)])) n v0 v1 v2 v3 v4 v5 v6 v7 | 0, _, _, _, _, _, _, _, _ => rfl | n + 1, v0, v1, v2, v3, v4, v5, v6, v7 => (Jog f k n v0 v1 v2 v3 v4 v5 v6 v7).trans (congrArg (fun r => V2 f r (fun x0 x1 x2 => k (Ex.exit 2) (Jc Y6 N79 [.ow 5 592 [] 0 x0 none] [(592, .vec false 5 x1 x2)])) v0 v1 v2 v3 v4 v5 v6 v7) (by funext v0 v1 v2 v3 v4 v5 v6 v7; exact JiX f k n v0 v1 v2 v3 v4 v5 v6 v7))
def JbO (f : Nat) : List PV -> List (Nat × Ent) -> Kont -> Option Res
 | [.ow 5 592 [] 0 v0 none, .ro 29 v1 v2 v3, .sc (.int .i64 v4),
 PV.sc
  (Value.int IntKind.i64
   v5)], [(592, .vec false 5 v6 v7)], k => Xz f (fun x0 x1 x2 => k (Ex.exit 2) (Jc Y6 N79 [.ow 5 592 [] 0 x0 none] [(592, .vec false 5 x1 x2)])) f v0 v1 v2 v3 v4 v5 v6 v7
 | _, _, _ => none
theorem JsA (f : Nat) : Je Jc1 JfI = [] := by kernel_rfl
theorem JsB (f : Nat) : (Item.l Jc1 X9 N79 (JbO f)).Ok tau Try.prog 0 := JJ Jq Jhi Js (x := JfI) (nm2 := Y6) (Jl _ _ (by rw [JsA f]; intro q hq; cases hq)) fun vs hp k res hr => by
 unfold JbO at hr
 split at hr
 · exact ⟨f, 0, (JiX f _ f _ _ _ _ _ _ _ _ ).trans hr⟩
 · cases hr
def g79 (f : Nat) (y0 y1 : Bool) (slices : List PV) (k : Res -> Option Res) : Option Res := Vk f (fun x0_0 x1_0 x2_0 x3_0 => bif decide (x3_0 < 0) then none else bif decide (IntKind.i64.wrap (x3_0 - IntKind.i64.wrap (zi 0 - zi 0)) > 0) then bif decide (0 <= IntKind.i64.wrap (x3_0 - IntKind.i64.wrap (zi 0 - zi 0))) && Jf (IntKind.i64.wrap (x3_0 - IntKind.i64.wrap (zi 0 - zi 0))).toNat 1 && true then Xz f (fun x0_1 x1_1 x2_1 => k (Res.mk (.ow 5 16 [] 0 x0_1 none) [] [.vec false 5 x1_1 x2_1])) f (0) x0_0 x1_0 x2_0 (zi x2_0.length) (0) (IntKind.i64.wrap (x3_0 - IntKind.i64.wrap (zi 0 - zi 0)) == 0) (List.replicate (IntKind.i64.wrap (x3_0 - IntKind.i64.wrap (zi 0 - zi 0))).toNat (.sc (.int .u8 0))) else none else Xz f (fun x0_2 x1_2 x2_2 => k (Res.mk (.ow 5 16 [] 0 x0_2 none) [] [.vec false 5 x1_2 x2_2])) f (0) x0_0 x1_0 x2_0 (zi x2_0.length) (0) true ([])) f y0 y1 slices (0) y0 y1 slices (zi slices.length) (0)
theorem e79 (f : Nat) (y0 y1 : Bool) (slices : List PV) (k : Res -> Option Res) : JL tau F79 Try.f79 (Try.f79.body.get!) (Joe (JbN f) (JbO f)) [] 0 [.ro 29 y0 y1 slices] [] k = g79 f y0 y1 slices k := by kernel_rfl
theorem JAW (f : Nat) : Je (Try.f79.body.get!) (Joe (JbN f) (JbO f)) = [.l Jc0 X8 N79 (JbN f), .l Jc1 X9 N79 (JbO f)] := by kernel_rfl
theorem JAX (f : Nat) : ∀ q ∈ Je (Try.f79.body.get!) (Joe (JbN f) (JbO f)), q.Ok tau Try.prog 0 := by
 rw [JAW f]; simp only [List.forall_mem_cons, List.not_mem_nil, false_implies, implies_true, and_true]; exact ⟨Jsz f, JsB f⟩
theorem Jwi : Try.prog.funcs[79]? = some Try.f79 := by kernel_rfl
theorem Jwj : Try.f79.body = some (Try.f79.body.get!) := by kernel_rfl
theorem JsC : Enters Try.prog 79 := enters_of Jwi (by kernel_rfl) Jwj
-- FN slices.Concat[[]byte,byte]
def Jv (l : List PV) : List PV := (l.map PV.els).flatten
@[simp] theorem V3 : Jv [] = [] := rfl
@[simp] theorem WV (p : PV) (l : List PV) : Jv (p :: l) = p.els ++ Jv l := by simp [Jv]
theorem JaB (a b : List PV) : Jv (a ++ b) = Jv a ++ Jv b := by simp [Jv]
theorem JbP (l : List PV) (i : Nat) (h : i < l.length) : l.take (i + 1) = l.take i ++ [l.getD i .top] := by
 rw [List.take_add_one, List.getD_eq_getElem?_getD, List.getElem?_eq_getElem h]; rfl
theorem JbQ (l : List PV) (i : Nat) (h : i < l.length) : l.drop i = l.getD i .top :: l.drop (i + 1) := by
 rw [List.drop_eq_getElem_cons h, List.getD_eq_getElem?_getD, List.getElem?_eq_getElem h]; rfl
theorem WW (l : List PV) (i : Nat) (h : i < l.length) : Jv (l.take (i + 1)) = Jv (l.take i) ++ (l.getD i .top).els := by
 rw [JbP l i h, JaB, WV, V3, List.append_nil]
theorem WE (l : List PV) (i : Nat) : (Jv (l.take i)).length <= (Jv l).length := by
 have : Jv l = Jv (l.take i) ++ Jv (l.drop i) := by rw [← JaB, List.take_append_drop]
 rw [this, List.length_append]; omega
theorem Jc2 {l : List PV} (h : l.all (PV.isRo 5) = true) {i : Nat} (hi : i < l.length) : (l.getD i .top).isRo 5 = true := by
 rw [List.getD_eq_getElem?_getD, List.getElem?_eq_getElem hi]
 exact List.all_eq_true.1 h _ (List.getElem_mem hi)
theorem JaC {α : Type} (a b : List α) : (a ++ b).isEmpty = (a.isEmpty && b.isEmpty) := by cases a <;> rfl
theorem JqJ (f : Nat) (k0 : Bool -> Bool -> List PV -> Int -> Option Res) (a b : Bool) (c : List PV) (nl fl : Bool) (l : List PV) (hl : l.all (PV.isRo 5) = true) (hs : (Jv l).length <= 140737488355328) (hn : l.length <= 140737488355328) : ∀ (d i n : Nat), i + d = l.length -> d < n ->
  Vk f k0 n a b c ((Jv (l.take i)).length : Int) nl fl l (l.length : Int) (i : Int) = k0 a b c ((Jv l).length : Int)
 | 0, i, n + 1, h, hd => by
   obtain rfl : i = l.length := by omega
   simp only [Vk, V1]
   exact (Jj (by simp)).trans (by rw [List.take_length])
 | d + 1, i, n + 1, h, hd => by
   have hle := WE l (i + 1)
   have hadd : (Jv (l.take (i + 1))).length = (Jv (l.take i)).length + (l.getD i .top).els.length := by rw [WW l i (by omega), List.length_append]
   have h1 : IntKind.i64.wrap ((i : Int) + 1) = ((i + 1 : Nat) : Int) := by rw [wrap_i64 (by omega) (by omega)]; omega
   have h2 : IntKind.i64.wrap (((Jv (l.take i)).length : Int) + ((l.getD i .top).els.length : Int)) = ((Jv (l.take (i + 1))).length : Int) := by rw [wrap_i64 (by omega) (by omega)]; omega
   simp only [Vk, V1, zi, Int.toNat_natCast, h1, h2]
   refine (Ja (by simp <;> omega)).trans ?_
   refine (Ja (by rw [Jc2 hl (by omega)]; simp; omega)).trans ?_
   refine (Jj (by simp <;> omega)).trans ?_
   exact JqJ f k0 a b c nl fl l hl hs hn d (i + 1) n (by omega) (by omega)
theorem Jly (f : Nat) (k0 : Nat -> Bool -> List PV -> Option Res) (nl fl : Bool) (l : List PV) (hl : l.all (PV.isRo 5) = true) (hs : (Jv l).length <= 140737488355328) (hn : l.length <= 140737488355328) : ∀ (d i n : Nat) (z : Bool) (v : List PV), i + d = l.length -> d < n -> v.take (Jv (l.take i)).length = Jv (l.take i) -> (d = 0 -> v = Jv l) ->
  Xz f k0 n (Jv (l.take i)).length nl fl l (l.length : Int) (i : Int) z v = k0 (Jv l).length (z && (Jv (l.drop i)).isEmpty) (Jv l)
 | 0, i, n + 1, z, v, h, hd, hv, h0 => by
   obtain rfl : i = l.length := by omega
   simp only [Xz, V2]
   refine (Jj (by simp)).trans ?_
   rw [List.take_length, h0 rfl, List.drop_length]; simp
 | d + 1, i, n + 1, z, v, h, hd, hv, h0 => by
   have hle := WE l (i + 1)
   have hadd : (Jv (l.take (i + 1))).length = (Jv (l.take i)).length + (l.getD i .top).els.length := by rw [WW l i (by omega), List.length_append]
   have h1 : IntKind.i64.wrap ((i : Int) + 1) = ((i + 1 : Nat) : Int) := by rw [wrap_i64 (by omega) (by omega)]; omega
   simp only [Xz, V2, zi, Int.toNat_natCast, h1, hv]
   refine (Ja (by simp <;> omega)).trans ?_
   refine (Ja (by rw [Jc2 hl (by omega)]; simp; omega)).trans ?_
   refine (Ja (by simp only [Jf, Bool.and_true, decide_eq_true_eq]; omega)).trans ?_
   have := Jly f k0 nl fl l hl hs hn d (i + 1) n (z && (l.getD i .top).els.isEmpty) (Jv (l.take (i + 1))) (by omega) (by omega) (List.take_length) (fun hd0 => by rw [show i + 1 = l.length from by omega, List.take_length])
   rw [hadd, WW l i (by omega)] at this
   rw [this, JbQ l i (by omega), WV, JaC, Bool.and_assoc]
def Jhj : List PV -> List Ent -> (Res -> Option Res) -> Option Res
 | [.ro 29 nl fl l], [], k => bif l.all (PV.isRo 5) && (decide ((Jv l).length <= 140737488355328) && decide (l.length <= 140737488355328)) then k ⟨.ow 5 16 [] 0 (Jv l).length none, [], [.vec false 5 (Jv l).isEmpty (Jv l)]⟩ else none
 | _, _, _ => none
def Joh : Sig := { own := [], run := Jhj }
theorem JsD (nl fl : Bool) (l : List PV) (k : Res -> Option Res) (hl : l.all (PV.isRo 5) = true) (hs : (Jv l).length <= 140737488355328) (hn : l.length <= 140737488355328) :
  g79 (l.length + 1) nl fl l k = k ⟨.ow 5 16 [] 0 (Jv l).length none, [], [.vec false 5 (Jv l).isEmpty (Jv l)]⟩ := by
 have h0 := JqJ (l.length + 1) (fun x0_0 x1_0 x2_0 x3_0 =>
  bif decide (x3_0 < 0) then
   none
  else bif decide (IntKind.i64.wrap (x3_0 - IntKind.i64.wrap (zi 0 - zi 0)) > 0) then
   bif decide (0 <= IntKind.i64.wrap (x3_0 - IntKind.i64.wrap (zi 0 - zi 0))) && Jf (IntKind.i64.wrap (x3_0 - IntKind.i64.wrap (zi 0 - zi 0))).toNat 1 && true then
    Xz (l.length + 1) (fun x0_1 x1_1 x2_1 =>
     k (Res.mk (PV.ow 5 16 [] 0 x0_1 none) []
      [Ent.vec false 5 x1_1
       x2_1])) (l.length + 1) (0) x0_0 x1_0 x2_0 (zi
     x2_0.length) (0) (IntKind.i64.wrap (x3_0 - IntKind.i64.wrap (zi 0 - zi 0)) ==
     0) (List.replicate (IntKind.i64.wrap (x3_0 - IntKind.i64.wrap (zi 0 - zi 0))).toNat (PV.sc (Value.int IntKind.u8 0)))
   else none
  else Xz (l.length + 1) (fun x0_2 x1_2 x2_2 =>
   k (Res.mk (PV.ow 5 16 [] 0 x0_2 none) [] [Ent.vec false 5 x1_2 x2_2])) (l.length + 1) (0) x0_0 x1_0 x2_0 (zi x2_0.length) (0) true ([])) nl fl l nl fl l hl hs hn l.length 0 (l.length + 1) (by omega) (by omega)
 refine h0.trans ?_
 have hw : IntKind.i64.wrap (((Jv l).length : Int) - IntKind.i64.wrap (zi 0 - zi 0)) = ((Jv l).length : Int) := by
  have : IntKind.i64.wrap (zi 0 - zi 0) = 0 := by decide
  rw [this, wrap_i64 (by omega) (by omega)]; omega
 simp only [hw]
 refine (Jj (by simp <;> omega)).trans ?_
 cases he : (Jv l).isEmpty with
 | true =>
  have he' : Jv l = [] := by simpa using he
  refine (Jj (by simp [he'])).trans ?_
  have := Jly (l.length + 1) (fun x0_2 x1_2 x2_2 => k (Res.mk (PV.ow 5 16 [] 0 x0_2 none) [] [Ent.vec false 5 x1_2 x2_2])) nl fl l hl hs hn l.length 0 (l.length + 1) true [] (by omega) (by omega) (by simp) (fun _ => he'.symm)
  refine this.trans ?_
  simp [he']
 | false =>
  have he' : Jv l ≠ [] := by simpa using he
  have hpos : 0 < (Jv l).length := List.length_pos_iff.2 he'
  have hl0 : l.length ≠ 0 := by
   intro h; rw [List.length_eq_zero_iff] at h; subst h; simp at he'
  refine (Ja (by simp <;> omega)).trans ?_
  refine (Ja (by simp [Jf] <;> omega)).trans ?_
  have := Jly (l.length + 1) (fun x0_2 x1_2 x2_2 => k (Res.mk (PV.ow 5 16 [] 0 x0_2 none) [] [Ent.vec false 5 x1_2 x2_2])) nl fl l hl hs hn l.length 0 (l.length + 1) (((Jv l).length : Int) == 0) (List.replicate (((Jv l).length : Int)).toNat (PV.sc (Value.int IntKind.u8 0))) (by omega) (by omega) (by simp) (fun h => absurd h hl0)
  refine this.trans ?_
  have hz : (((Jv l).length : Int) == 0) = false := by simp [he']
  rw [hz]; rfl
theorem Jlz : Jh tau Try.prog 79 Joh := Jd4 Jq Jhi Js Jwi Jwj (fun n => Joe (JbN n) (JbO n)) [] 0 [] Jhj (fun n => JAX n) fun xs es k res hr => by
 unfold Jhj at hr
 split at hr
 · rename_i nl fl l
   obtain ⟨hc, hr⟩ := JI hr
   simp only [Bool.and_eq_true, decide_eq_true_eq] at hc
   refine ⟨rfl, l.length + 1, 0, (e79 _ _ _ _ _).trans ?_⟩
   rw [JsD _ _ _ _ hc.1 hc.2.1 hc.2.2]; exact hr
 · cases hr
def JqK : Fns := JH 79 Joh (F0)
theorem JlA : Jy tau Try.prog JqK := (JE).add Jlz JsC
def Jei : An := (.seq .leaf (.seq .leaf .leaf))
def JlB (f : Nat) (b_z b_f : Bool) (b : List PV) (n : Int) (k : Res -> Option Res) : Option Res := bif decide ((Jv [.ro 5 b_z b_f b, .ro 5 false false [.sc (.int .u8 (IntKind.u8.wrap n))]]).length <= 140737488355328) && true then k (Res.mk (.ow 5 16 [] 0 (Jv [.ro 5 b_z b_f b, .ro 5 false false [.sc (.int .u8 (IntKind.u8.wrap n))]]).length none) [] [.vec false 5 (Jv [.ro 5 b_z b_f b, .ro 5 false false [.sc (.int .u8 (IntKind.u8.wrap n))]]).isEmpty (Jv [.ro 5 b_z b_f b, .ro 5 false false [.sc (.int .u8 (IntKind.u8.wrap n))]])]) else none
theorem Jwk (f : Nat) (b_z b_f : Bool) (b : List PV) (n : Int) (k : Res -> Option Res) : JL tau JqK Try.f130 (Try.f130.body.get!) Jei [] 0 [.ro 5 b_z b_f b, .sc (.int .i64 n)] [] k = JlB f b_z b_f b n k := by kernel_rfl
theorem JsE (f : Nat) : Je (Try.f130.body.get!) Jei = [] := by kernel_rfl
theorem JsF (f : Nat) : ∀ q ∈ Je (Try.f130.body.get!) Jei, q.Ok tau Try.prog 0 := by
 rw [JsE f]; intro q hq; cases hq
theorem JsG : Try.prog.funcs[130]? = some Try.f130 := by kernel_rfl
theorem JsH : Try.f130.body = some (Try.f130.body.get!) := by kernel_rfl
def Jwl : Fns := JH 79 Joh (F0)
theorem Joi : Jy tau Try.prog Jwl := (JE).add Jlz JsC
def JiY : An := (.seq .leaf (.seq .leaf (.seq .leaf .leaf)))
def JsI (f : Nat) (b_z b_f : Bool) (b : List PV) (s : ByteArray) (k : Res -> Option Res) : Option Res := bif decide (0 <= JK (zi s.size) 65535) && true && decide ((JK (zi s.size) 65535).toNat <= s.size) && true then bif Jf (s.extract 0 (JK (zi s.size) 65535).toNat).size 1 && true then bif decide ((Jv [.ro 5 b_z b_f b, .ro 5 false false [.sc (.int .u8 (IntKind.u8.wrap (zi (s.extract 0 (JK (zi s.size) 65535).toNat).size))), .sc (.int .u8 (IntKind.u8.wrap (Jz IntKind.i64 (zi (s.extract 0 (JK (zi s.size) 65535).toNat).size) 8)))], .ro 5 false false (List.take (s.extract 0 (JK (zi s.size) 65535).toNat).size (Jg (s.extract 0 (JK (zi s.size) 65535).toNat)))]).length <= 140737488355328) && true then k (Res.mk (.ow 5 16 [] 0 (Jv [.ro 5 b_z b_f b, .ro 5 false false [.sc (.int .u8 (IntKind.u8.wrap (zi (s.extract 0 (JK (zi s.size) 65535).toNat).size))), .sc (.int .u8 (IntKind.u8.wrap (Jz IntKind.i64 (zi (s.extract 0 (JK (zi s.size) 65535).toNat).size) 8)))], .ro 5 false false (List.take (s.extract 0 (JK (zi s.size) 65535).toNat).size (Jg (s.extract 0 (JK (zi s.size) 65535).toNat)))]).length none) [] [.vec false 5 (Jv [.ro 5 b_z b_f b, .ro 5 false false [.sc (.int .u8 (IntKind.u8.wrap (zi (s.extract 0 (JK (zi s.size) 65535).toNat).size))), .sc (.int .u8 (IntKind.u8.wrap (Jz IntKind.i64 (zi (s.extract 0 (JK (zi s.size) 65535).toNat).size) 8)))], .ro 5 false false (List.take (s.extract 0 (JK (zi s.size) 65535).toNat).size (Jg (s.extract 0 (JK (zi s.size) 65535).toNat)))]).isEmpty (Jv [.ro 5 b_z b_f b, .ro 5 false false [.sc (.int .u8 (IntKind.u8.wrap (zi (s.extract 0 (JK (zi s.size) 65535).toNat).size))), .sc (.int .u8 (IntKind.u8.wrap (Jz IntKind.i64 (zi (s.extract 0 (JK (zi s.size) 65535).toNat).size) 8)))], .ro 5 false false (List.take (s.extract 0 (JK (zi s.size) 65535).toNat).size (Jg (s.extract 0 (JK (zi s.size) 65535).toNat)))])]) else none else none else none
theorem JAY (f : Nat) (b_z b_f : Bool) (b : List PV) (s : ByteArray) (k : Res -> Option Res) : JL tau Jwl Try.f92 (Try.f92.body.get!) JiY [] 0 [.ro 5 b_z b_f b, .sc (.string s)] [] k = JsI f b_z b_f b s k := by kernel_rfl
theorem Jwm (f : Nat) : Je (Try.f92.body.get!) JiY = [] := by kernel_rfl
theorem Jwn (f : Nat) : ∀ q ∈ Je (Try.f92.body.get!) JiY, q.Ok tau Try.prog 0 := by
 rw [Jwm f]; intro q hq; cases hq
theorem Jwo : Try.prog.funcs[92]? = some Try.f92 := by kernel_rfl
theorem Jwp : Try.f92.body = some (Try.f92.body.get!) := by kernel_rfl
theorem Jwq : Try.prog.funcs[130]? = some Try.f130 := by kernel_rfl
theorem Jwr : Try.f130.body = some (Try.f130.body.get!) := by kernel_rfl
theorem Jws : Enters Try.prog 130 := enters_of Jwq (by kernel_rfl) Jwr
theorem JAZ : Try.prog.funcs[92]? = some Try.f92 := by kernel_rfl
theorem JA0 : Try.f92.body = some (Try.f92.body.get!) := by kernel_rfl
theorem Jwt : Enters Try.prog 92 := enters_of JAZ (by kernel_rfl) JA0
def Jwu : Fns := F0
theorem Joj : Jy tau Try.prog Jwu := JE
def JiZ : An := (.seq .leaf (.seq (.seq .leaf (.cond (.seq .leaf .leaf) .leaf)) (.seq .leaf .leaf)))
def Jwv (f : Nat) (s_z s_f : Bool) (s : List PV) (k : Res -> Option Res) : Option Res := bif s_z then k (Res.mk (.ro 5 true true []) [] []) else bif Jf (0 + s.length) 1 && true then k (Res.mk (.ow 5 16 [] 0 (0 + s.length) none) [] [.vec false 5 false s]) else none
theorem JA1 (f : Nat) (s_z s_f : Bool) (s : List PV) (k : Res -> Option Res) : JL tau Jwu Try.f76 (Try.f76.body.get!) JiZ [] 0 [.ro 5 s_z s_f s] [] k = Jwv f s_z s_f s k := by kernel_rfl
theorem Jww (f : Nat) : Je (Try.f76.body.get!) JiZ = [] := by kernel_rfl
theorem Jwx (f : Nat) : ∀ q ∈ Je (Try.f76.body.get!) JiZ, q.Ok tau Try.prog 0 := by
 rw [Jww f]; intro q hq; cases hq
theorem JqL : Try.prog.funcs[76]? = some Try.f76 := by kernel_rfl
theorem JqM : Try.f76.body = some (Try.f76.body.get!) := by kernel_rfl
theorem JqN : Enters Try.prog 76 := enters_of JqL (by kernel_rfl) JqM
def Jhk : List PV -> List Ent -> (Res -> Option Res) -> Option Res
 | [.ro 5 s_z s_f s], [], k => Jwv 0 s_z s_f s k
 | _, _, _ => none
def JsJ : Sig := { own := [], run := Jhk }
theorem JqO : Jh tau Try.prog 76 JsJ := JY Jq Joj Js JqL JqM JiZ [] 0 [] Jhk (Jwx 0) fun xs es k res hr => by
 unfold Jhk at hr
 split at hr
 · exact ⟨rfl, 0, (JA1 0 _ _ _  _).trans hr⟩
 · cases hr
def F35 : Fns := JH 76 JsJ (F0)
theorem JsK : Jy tau Try.prog F35 := (JE).add JqO JqN
def JsL : Nm := [(0, .any), (1, .any), (5, .own), (6, .any)]
def Jwy : An := (.seq .leaf (.seq .leaf (.seq .leaf (.seq .leaf (.seq (.seq .leaf (.seq .leaf (.cond .leaf .leaf))) (.seq .leaf .leaf))))))
def Jok : An := (.seq .leaf (.scope JsL Jwy))
def g35 (f : Nat) (b_z b_f : Bool) (b : List PV) (n : Int) (k : Res -> Option Res) : Option Res := bif b_z then k (Res.mk (.ro 5 false false [.sc (.int .u8 (IntKind.u8.wrap (Jz IntKind.u64 (IntKind.u64.wrap n) (IntKind.i64.wrap (8 * 0))))), .sc (.int .u8 (IntKind.u8.wrap (Jz IntKind.u64 (IntKind.u64.wrap n) (IntKind.i64.wrap (8 * IntKind.i64.wrap (0 + 1)))))), .sc (.int .u8 (IntKind.u8.wrap (Jz IntKind.u64 (IntKind.u64.wrap n) (IntKind.i64.wrap (8 * IntKind.i64.wrap (IntKind.i64.wrap (0 + 1) + 1)))))), .sc (.int .u8 (IntKind.u8.wrap (Jz IntKind.u64 (IntKind.u64.wrap n) (IntKind.i64.wrap (8 * IntKind.i64.wrap (IntKind.i64.wrap (IntKind.i64.wrap (0 + 1) + 1) + 1)))))), .sc (.int .u8 (IntKind.u8.wrap (Jz IntKind.u64 (IntKind.u64.wrap n) (IntKind.i64.wrap (8 * IntKind.i64.wrap (IntKind.i64.wrap (IntKind.i64.wrap (IntKind.i64.wrap (0 + 1) + 1) + 1) + 1)))))), .sc (.int .u8 (IntKind.u8.wrap (Jz IntKind.u64 (IntKind.u64.wrap n) (IntKind.i64.wrap (8 * IntKind.i64.wrap (IntKind.i64.wrap (IntKind.i64.wrap (IntKind.i64.wrap (IntKind.i64.wrap (0 + 1) + 1) + 1) + 1) + 1)))))), .sc (.int .u8 (IntKind.u8.wrap (Jz IntKind.u64 (IntKind.u64.wrap n) (IntKind.i64.wrap (8 * IntKind.i64.wrap (IntKind.i64.wrap (IntKind.i64.wrap (IntKind.i64.wrap (IntKind.i64.wrap (IntKind.i64.wrap (0 + 1) + 1) + 1) + 1) + 1) + 1)))))), .sc (.int .u8 (IntKind.u8.wrap (Jz IntKind.u64 (IntKind.u64.wrap n) (IntKind.i64.wrap (8 * IntKind.i64.wrap (IntKind.i64.wrap (IntKind.i64.wrap (IntKind.i64.wrap (IntKind.i64.wrap (IntKind.i64.wrap (IntKind.i64.wrap (0 + 1) + 1) + 1) + 1) + 1) + 1) + 1))))))]) [] []) else bif Jf (0 + b.length) 1 && true then bif Jf (0 + b.length + 1) 1 && true then bif Jf (0 + b.length + 1 + 1) 1 && true then bif Jf (0 + b.length + 1 + 1 + 1) 1 && true then bif Jf (0 + b.length + 1 + 1 + 1 + 1) 1 && true then bif Jf (0 + b.length + 1 + 1 + 1 + 1 + 1) 1 && true then bif Jf (0 + b.length + 1 + 1 + 1 + 1 + 1 + 1) 1 && true then bif Jf (0 + b.length + 1 + 1 + 1 + 1 + 1 + 1 + 1) 1 && true then bif Jf (0 + b.length + 1 + 1 + 1 + 1 + 1 + 1 + 1 + 1) 1 && true then bif Jf (0 + (List.take (0 + b.length + 1 + 1 + 1 + 1 + 1 + 1 + 1 + 1) (List.take (0 + b.length + 1 + 1 + 1 + 1 + 1 + 1 + 1) (List.take (0 + b.length + 1 + 1 + 1 + 1 + 1 + 1) (List.take (0 + b.length + 1 + 1 + 1 + 1 + 1) (List.take (0 + b.length + 1 + 1 + 1 + 1) (List.take (0 + b.length + 1 + 1 + 1) (List.take (0 + b.length + 1 + 1) (List.take (0 + b.length + 1) (List.take (0 + b.length) b ++ [.sc (.int .u8 (IntKind.u8.wrap (Jz IntKind.u64 (IntKind.u64.wrap n) (IntKind.i64.wrap (8 * 0)))))]) ++ [.sc (.int .u8 (IntKind.u8.wrap (Jz IntKind.u64 (IntKind.u64.wrap n) (IntKind.i64.wrap (8 * IntKind.i64.wrap (0 + 1))))))]) ++ [.sc (.int .u8 (IntKind.u8.wrap (Jz IntKind.u64 (IntKind.u64.wrap n) (IntKind.i64.wrap (8 * IntKind.i64.wrap (IntKind.i64.wrap (0 + 1) + 1))))))]) ++ [.sc (.int .u8 (IntKind.u8.wrap (Jz IntKind.u64 (IntKind.u64.wrap n) (IntKind.i64.wrap (8 * IntKind.i64.wrap (IntKind.i64.wrap (IntKind.i64.wrap (0 + 1) + 1) + 1))))))]) ++ [.sc (.int .u8 (IntKind.u8.wrap (Jz IntKind.u64 (IntKind.u64.wrap n) (IntKind.i64.wrap (8 * IntKind.i64.wrap (IntKind.i64.wrap (IntKind.i64.wrap (IntKind.i64.wrap (0 + 1) + 1) + 1) + 1))))))]) ++ [.sc (.int .u8 (IntKind.u8.wrap (Jz IntKind.u64 (IntKind.u64.wrap n) (IntKind.i64.wrap (8 * IntKind.i64.wrap (IntKind.i64.wrap (IntKind.i64.wrap (IntKind.i64.wrap (IntKind.i64.wrap (0 + 1) + 1) + 1) + 1) + 1))))))]) ++ [.sc (.int .u8 (IntKind.u8.wrap (Jz IntKind.u64 (IntKind.u64.wrap n) (IntKind.i64.wrap (8 * IntKind.i64.wrap (IntKind.i64.wrap (IntKind.i64.wrap (IntKind.i64.wrap (IntKind.i64.wrap (IntKind.i64.wrap (0 + 1) + 1) + 1) + 1) + 1) + 1))))))]) ++ [.sc (.int .u8 (IntKind.u8.wrap (Jz IntKind.u64 (IntKind.u64.wrap n) (IntKind.i64.wrap (8 * IntKind.i64.wrap (IntKind.i64.wrap (IntKind.i64.wrap (IntKind.i64.wrap (IntKind.i64.wrap (IntKind.i64.wrap (IntKind.i64.wrap (0 + 1) + 1) + 1) + 1) + 1) + 1) + 1))))))])).length) 1 && true then k (Res.mk (.ro 5 false false (List.take (0 + (List.take (0 + b.length + 1 + 1 + 1 + 1 + 1 + 1 + 1 + 1) (List.take (0 + b.length + 1 + 1 + 1 + 1 + 1 + 1 + 1) (List.take (0 + b.length + 1 + 1 + 1 + 1 + 1 + 1) (List.take (0 + b.length + 1 + 1 + 1 + 1 + 1) (List.take (0 + b.length + 1 + 1 + 1 + 1) (List.take (0 + b.length + 1 + 1 + 1) (List.take (0 + b.length + 1 + 1) (List.take (0 + b.length + 1) (List.take (0 + b.length) b ++ [.sc (.int .u8 (IntKind.u8.wrap (Jz IntKind.u64 (IntKind.u64.wrap n) (IntKind.i64.wrap (8 * 0)))))]) ++ [.sc (.int .u8 (IntKind.u8.wrap (Jz IntKind.u64 (IntKind.u64.wrap n) (IntKind.i64.wrap (8 * IntKind.i64.wrap (0 + 1))))))]) ++ [.sc (.int .u8 (IntKind.u8.wrap (Jz IntKind.u64 (IntKind.u64.wrap n) (IntKind.i64.wrap (8 * IntKind.i64.wrap (IntKind.i64.wrap (0 + 1) + 1))))))]) ++ [.sc (.int .u8 (IntKind.u8.wrap (Jz IntKind.u64 (IntKind.u64.wrap n) (IntKind.i64.wrap (8 * IntKind.i64.wrap (IntKind.i64.wrap (IntKind.i64.wrap (0 + 1) + 1) + 1))))))]) ++ [.sc (.int .u8 (IntKind.u8.wrap (Jz IntKind.u64 (IntKind.u64.wrap n) (IntKind.i64.wrap (8 * IntKind.i64.wrap (IntKind.i64.wrap (IntKind.i64.wrap (IntKind.i64.wrap (0 + 1) + 1) + 1) + 1))))))]) ++ [.sc (.int .u8 (IntKind.u8.wrap (Jz IntKind.u64 (IntKind.u64.wrap n) (IntKind.i64.wrap (8 * IntKind.i64.wrap (IntKind.i64.wrap (IntKind.i64.wrap (IntKind.i64.wrap (IntKind.i64.wrap (0 + 1) + 1) + 1) + 1) + 1))))))]) ++ [.sc (.int .u8 (IntKind.u8.wrap (Jz IntKind.u64 (IntKind.u64.wrap n) (IntKind.i64.wrap (8 * IntKind.i64.wrap (IntKind.i64.wrap (IntKind.i64.wrap (IntKind.i64.wrap (IntKind.i64.wrap (IntKind.i64.wrap (0 + 1) + 1) + 1) + 1) + 1) + 1))))))]) ++ [.sc (.int .u8 (IntKind.u8.wrap (Jz IntKind.u64 (IntKind.u64.wrap n) (IntKind.i64.wrap (8 * IntKind.i64.wrap (IntKind.i64.wrap (IntKind.i64.wrap (IntKind.i64.wrap (IntKind.i64.wrap (IntKind.i64.wrap (IntKind.i64.wrap (0 + 1) + 1) + 1) + 1) + 1) + 1) + 1))))))])).length) (List.take (0 + b.length + 1 + 1 + 1 + 1 + 1 + 1 + 1 + 1) (List.take (0 + b.length + 1 + 1 + 1 + 1 + 1 + 1 + 1) (List.take (0 + b.length + 1 + 1 + 1 + 1 + 1 + 1) (List.take (0 + b.length + 1 + 1 + 1 + 1 + 1) (List.take (0 + b.length + 1 + 1 + 1 + 1) (List.take (0 + b.length + 1 + 1 + 1) (List.take (0 + b.length + 1 + 1) (List.take (0 + b.length + 1) (List.take (0 + b.length) b ++ [.sc (.int .u8 (IntKind.u8.wrap (Jz IntKind.u64 (IntKind.u64.wrap n) (IntKind.i64.wrap (8 * 0)))))]) ++ [.sc (.int .u8 (IntKind.u8.wrap (Jz IntKind.u64 (IntKind.u64.wrap n) (IntKind.i64.wrap (8 * IntKind.i64.wrap (0 + 1))))))]) ++ [.sc (.int .u8 (IntKind.u8.wrap (Jz IntKind.u64 (IntKind.u64.wrap n) (IntKind.i64.wrap (8 * IntKind.i64.wrap (IntKind.i64.wrap (0 + 1) + 1))))))]) ++ [.sc (.int .u8 (IntKind.u8.wrap (Jz IntKind.u64 (IntKind.u64.wrap n) (IntKind.i64.wrap (8 * IntKind.i64.wrap (IntKind.i64.wrap (IntKind.i64.wrap (0 + 1) + 1) + 1))))))]) ++ [.sc (.int .u8 (IntKind.u8.wrap (Jz IntKind.u64 (IntKind.u64.wrap n) (IntKind.i64.wrap (8 * IntKind.i64.wrap (IntKind.i64.wrap (IntKind.i64.wrap (IntKind.i64.wrap (0 + 1) + 1) + 1) + 1))))))]) ++ [.sc (.int .u8 (IntKind.u8.wrap (Jz IntKind.u64 (IntKind.u64.wrap n) (IntKind.i64.wrap (8 * IntKind.i64.wrap (IntKind.i64.wrap (IntKind.i64.wrap (IntKind.i64.wrap (IntKind.i64.wrap (0 + 1) + 1) + 1) + 1) + 1))))))]) ++ [.sc (.int .u8 (IntKind.u8.wrap (Jz IntKind.u64 (IntKind.u64.wrap n) (IntKind.i64.wrap (8 * IntKind.i64.wrap (IntKind.i64.wrap (IntKind.i64.wrap (IntKind.i64.wrap (IntKind.i64.wrap (IntKind.i64.wrap (0 + 1) + 1) + 1) + 1) + 1) + 1))))))]) ++ [.sc (.int .u8 (IntKind.u8.wrap (Jz IntKind.u64 (IntKind.u64.wrap n) (IntKind.i64.wrap (8 * IntKind.i64.wrap (IntKind.i64.wrap (IntKind.i64.wrap (IntKind.i64.wrap (IntKind.i64.wrap (IntKind.i64.wrap (IntKind.i64.wrap (0 + 1) + 1) + 1) + 1) + 1) + 1) + 1))))))])))) [] []) else none else none else none else none else none else none else none else none else none else none
theorem e35 (f : Nat) (b_z b_f : Bool) (b : List PV) (n : Int) (k : Res -> Option Res) : JL tau F35 Try.f35 (Try.f35.body.get!) Jok [.ro] 12 [.ro 5 b_z b_f b, .sc (.int .i64 n)] [] k = g35 f b_z b_f b n k := by kernel_rfl
theorem JA2 (f : Nat) : Je (Try.f35.body.get!) Jok = [] := by kernel_rfl
theorem JA3 (f : Nat) : ∀ q ∈ Je (Try.f35.body.get!) Jok, q.Ok tau Try.prog 0 := by
 rw [JA2 f]; intro q hq; cases hq
theorem Jwz : Try.prog.funcs[35]? = some Try.f35 := by kernel_rfl
theorem JwA : Try.f35.body = some (Try.f35.body.get!) := by kernel_rfl
theorem JsM : Enters Try.prog 35 := enters_of Jwz (by kernel_rfl) JwA
def JwB : Fns := F0
theorem Jol : Jy tau Try.prog JwB := JE
def Ji0 : An := (.seq .leaf (.seq .leaf .leaf))
def JA4 (f : Nat) (n : Int) (k : Res -> Option Res) : Option Res := k (Res.mk (.ow 5 16 [] 0 1 none) [] [.vec false 5 false [.sc (.int .u8 (IntKind.u8.wrap n))]])
theorem JA5 (f : Nat) (n : Int) (k : Res -> Option Res) : JL tau JwB Try.f105 (Try.f105.body.get!) Ji0 [] 0 [.ro 5 true true [], .sc (.int .i64 n)] [] k = JA4 f n k := by kernel_rfl
theorem JwC (f : Nat) : Je (Try.f105.body.get!) Ji0 = [] := by kernel_rfl
theorem JwD (f : Nat) : ∀ q ∈ Je (Try.f105.body.get!) Ji0, q.Ok tau Try.prog 0 := by
 rw [JwC f]; intro q hq; cases hq
theorem JqP : Try.prog.funcs[105]? = some Try.f105 := by kernel_rfl
theorem JqQ : Try.f105.body = some (Try.f105.body.get!) := by kernel_rfl
theorem JqR : Enters Try.prog 105 := enters_of JqP (by kernel_rfl) JqQ
def JqS : Fns := F0
theorem JlC : Jy tau Try.prog JqS := JE
def Jej : An := (.seq .leaf (.seq .leaf .leaf))
def JlD (f : Nat) (nl : Bool) (l : List PV) (m : Nat) (n : Int) (k : Res -> Option Res) : Option Res := bif Jf (m + 1) 1 && true then k (Res.mk (.ow 5 16 [] 0 (m + 1) none) [.dead] [.vec false 5 (nl && false) (List.take m l ++ [.sc (.int .u8 (IntKind.u8.wrap n))])]) else none
theorem JwE (f : Nat) (nl : Bool) (l : List PV) (m : Nat) (n : Int) (k : Res -> Option Res) : JL tau JqS Try.f105 (Try.f105.body.get!) Jej [] 0 [.ow 5 0 [] 0 m none, .sc (.int .i64 n)] [.vec false 5 nl l] k = JlD f nl l m n k := by kernel_rfl
theorem JsN (f : Nat) : Je (Try.f105.body.get!) Jej = [] := by kernel_rfl
theorem JsO (f : Nat) : ∀ q ∈ Je (Try.f105.body.get!) Jej, q.Ok tau Try.prog 1 := by
 rw [JsN f]; intro q hq; cases hq
theorem JsP : Try.prog.funcs[105]? = some Try.f105 := by kernel_rfl
theorem JsQ : Try.f105.body = some (Try.f105.body.get!) := by kernel_rfl
def F53 : Fns := F0
theorem JsR : Jy tau Try.prog F53 := JE
def JsS : Nm := [(0, .own), (1, .any), (5, .any)]
def JwF : An := (.seq (.seq .leaf (.cond .leaf .leaf)) (.seq (.block none .leaf) .leaf))
def Jom : An := (.seq .leaf (.seq (.seq .leaf (.block none (.loop JsS JwF))) (.seq .leaf .leaf)))
def g53 (f : Nat) (n : Int) (k : Res -> Option Res) : Option Res := k (Res.mk (.ow 5 16 [] 0 8 none) [] [.vec false 5 false [.sc (.int .u8 (IntKind.u8.wrap (Jz IntKind.u64 (IntKind.u64.wrap n) (IntKind.u64.wrap (8 * IntKind.u64.wrap 0))))), .sc (.int .u8 (IntKind.u8.wrap (Jz IntKind.u64 (IntKind.u64.wrap n) (IntKind.u64.wrap (8 * IntKind.u64.wrap (IntKind.i64.wrap (0 + 1))))))), .sc (.int .u8 (IntKind.u8.wrap (Jz IntKind.u64 (IntKind.u64.wrap n) (IntKind.u64.wrap (8 * IntKind.u64.wrap (IntKind.i64.wrap (IntKind.i64.wrap (0 + 1) + 1))))))), .sc (.int .u8 (IntKind.u8.wrap (Jz IntKind.u64 (IntKind.u64.wrap n) (IntKind.u64.wrap (8 * IntKind.u64.wrap (IntKind.i64.wrap (IntKind.i64.wrap (IntKind.i64.wrap (0 + 1) + 1) + 1))))))), .sc (.int .u8 (IntKind.u8.wrap (Jz IntKind.u64 (IntKind.u64.wrap n) (IntKind.u64.wrap (8 * IntKind.u64.wrap (IntKind.i64.wrap (IntKind.i64.wrap (IntKind.i64.wrap (IntKind.i64.wrap (0 + 1) + 1) + 1) + 1))))))), .sc (.int .u8 (IntKind.u8.wrap (Jz IntKind.u64 (IntKind.u64.wrap n) (IntKind.u64.wrap (8 * IntKind.u64.wrap (IntKind.i64.wrap (IntKind.i64.wrap (IntKind.i64.wrap (IntKind.i64.wrap (IntKind.i64.wrap (0 + 1) + 1) + 1) + 1) + 1))))))), .sc (.int .u8 (IntKind.u8.wrap (Jz IntKind.u64 (IntKind.u64.wrap n) (IntKind.u64.wrap (8 * IntKind.u64.wrap (IntKind.i64.wrap (IntKind.i64.wrap (IntKind.i64.wrap (IntKind.i64.wrap (IntKind.i64.wrap (IntKind.i64.wrap (0 + 1) + 1) + 1) + 1) + 1) + 1))))))), .sc (.int .u8 (IntKind.u8.wrap (Jz IntKind.u64 (IntKind.u64.wrap n) (IntKind.u64.wrap (8 * IntKind.u64.wrap (IntKind.i64.wrap (IntKind.i64.wrap (IntKind.i64.wrap (IntKind.i64.wrap (IntKind.i64.wrap (IntKind.i64.wrap (IntKind.i64.wrap (0 + 1) + 1) + 1) + 1) + 1) + 1) + 1)))))))]])
theorem e53 (f : Nat) (n : Int) (k : Res -> Option Res) : JL tau F53 Try.f53 (Try.f53.body.get!) Jom [] 12 [.ro 5 true true [], .sc (.int .i64 n)] [] k = g53 f n k := by kernel_rfl
theorem JA6 (f : Nat) : Je (Try.f53.body.get!) Jom = [] := by kernel_rfl
theorem JA7 (f : Nat) : ∀ q ∈ Je (Try.f53.body.get!) Jom, q.Ok tau Try.prog 0 := by
 rw [JA6 f]; intro q hq; cases hq
theorem JwG : Try.prog.funcs[53]? = some Try.f53 := by kernel_rfl
theorem JwH : Try.f53.body = some (Try.f53.body.get!) := by kernel_rfl
theorem JsT : Enters Try.prog 53 := enters_of JwG (by kernel_rfl) JwH
def JwI : Fns := F0
theorem Jon : Jy tau Try.prog JwI := JE
def Joo : Nm := [(0, .own), (1, .any), (5, .any)]
def JsU : An := (.seq (.seq .leaf (.cond .leaf .leaf)) (.seq (.block none .leaf) .leaf))
def Ji1 : An := (.seq .leaf (.seq (.seq .leaf (.block none (.loop Joo JsU))) (.seq .leaf .leaf)))
def JsV (f : Nat) (nl : Bool) (l : List PV) (m : Nat) (n : Int) (k : Res -> Option Res) : Option Res := bif Jf (m + 1) 1 && true then bif Jf (m + 1 + 1) 1 && true then bif Jf (m + 1 + 1 + 1) 1 && true then bif Jf (m + 1 + 1 + 1 + 1) 1 && true then bif Jf (m + 1 + 1 + 1 + 1 + 1) 1 && true then bif Jf (m + 1 + 1 + 1 + 1 + 1 + 1) 1 && true then bif Jf (m + 1 + 1 + 1 + 1 + 1 + 1 + 1) 1 && true then bif Jf (m + 1 + 1 + 1 + 1 + 1 + 1 + 1 + 1) 1 && true then k (Res.mk (.ow 5 16 [] 0 (m + 1 + 1 + 1 + 1 + 1 + 1 + 1 + 1) none) [.dead] [.vec false 5 (nl && false && false && false && false && false && false && false && false) (List.take (m + 1 + 1 + 1 + 1 + 1 + 1 + 1) (List.take (m + 1 + 1 + 1 + 1 + 1 + 1) (List.take (m + 1 + 1 + 1 + 1 + 1) (List.take (m + 1 + 1 + 1 + 1) (List.take (m + 1 + 1 + 1) (List.take (m + 1 + 1) (List.take (m + 1) (List.take m l ++ [.sc (.int .u8 (IntKind.u8.wrap (Jz IntKind.u64 (IntKind.u64.wrap n) (IntKind.u64.wrap (8 * IntKind.u64.wrap 0)))))]) ++ [.sc (.int .u8 (IntKind.u8.wrap (Jz IntKind.u64 (IntKind.u64.wrap n) (IntKind.u64.wrap (8 * IntKind.u64.wrap (IntKind.i64.wrap (0 + 1)))))))]) ++ [.sc (.int .u8 (IntKind.u8.wrap (Jz IntKind.u64 (IntKind.u64.wrap n) (IntKind.u64.wrap (8 * IntKind.u64.wrap (IntKind.i64.wrap (IntKind.i64.wrap (0 + 1) + 1)))))))]) ++ [.sc (.int .u8 (IntKind.u8.wrap (Jz IntKind.u64 (IntKind.u64.wrap n) (IntKind.u64.wrap (8 * IntKind.u64.wrap (IntKind.i64.wrap (IntKind.i64.wrap (IntKind.i64.wrap (0 + 1) + 1) + 1)))))))]) ++ [.sc (.int .u8 (IntKind.u8.wrap (Jz IntKind.u64 (IntKind.u64.wrap n) (IntKind.u64.wrap (8 * IntKind.u64.wrap (IntKind.i64.wrap (IntKind.i64.wrap (IntKind.i64.wrap (IntKind.i64.wrap (0 + 1) + 1) + 1) + 1)))))))]) ++ [.sc (.int .u8 (IntKind.u8.wrap (Jz IntKind.u64 (IntKind.u64.wrap n) (IntKind.u64.wrap (8 * IntKind.u64.wrap (IntKind.i64.wrap (IntKind.i64.wrap (IntKind.i64.wrap (IntKind.i64.wrap (IntKind.i64.wrap (0 + 1) + 1) + 1) + 1) + 1)))))))]) ++ [.sc (.int .u8 (IntKind.u8.wrap (Jz IntKind.u64 (IntKind.u64.wrap n) (IntKind.u64.wrap (8 * IntKind.u64.wrap (IntKind.i64.wrap (IntKind.i64.wrap (IntKind.i64.wrap (IntKind.i64.wrap (IntKind.i64.wrap (IntKind.i64.wrap (0 + 1) + 1) + 1) + 1) + 1) + 1)))))))]) ++ [.sc (.int .u8 (IntKind.u8.wrap (Jz IntKind.u64 (IntKind.u64.wrap n) (IntKind.u64.wrap (8 * IntKind.u64.wrap (IntKind.i64.wrap (IntKind.i64.wrap (IntKind.i64.wrap (IntKind.i64.wrap (IntKind.i64.wrap (IntKind.i64.wrap (IntKind.i64.wrap (0 + 1) + 1) + 1) + 1) + 1) + 1) + 1)))))))])]) else none else none else none else none else none else none else none else none
theorem JA8 (f : Nat) (nl : Bool) (l : List PV) (m : Nat) (n : Int) (k : Res -> Option Res) : JL tau JwI Try.f53 (Try.f53.body.get!) Ji1 [] 12 [.ow 5 0 [] 0 m none, .sc (.int .i64 n)] [.vec false 5 nl l] k = JsV f nl l m n k := by kernel_rfl
theorem JwJ (f : Nat) : Je (Try.f53.body.get!) Ji1 = [] := by kernel_rfl
theorem JwK (f : Nat) : ∀ q ∈ Je (Try.f53.body.get!) Ji1, q.Ok tau Try.prog 1 := by
 rw [JwJ f]; intro q hq; cases hq
theorem JwL : Try.prog.funcs[53]? = some Try.f53 := by kernel_rfl
theorem JwM : Try.f53.body = some (Try.f53.body.get!) := by kernel_rfl
def JwN : Fns := F0
theorem Jop : Jy tau Try.prog JwN := JE
def Ji2 : An := (.seq .leaf (.seq (.seq .leaf (.cond .leaf .leaf)) (.seq .leaf .leaf)))
def JsW (f : Nat) (nl : Bool) (l : List PV) (m : Nat) (s : ByteArray) (k : Res -> Option Res) : Option Res := bif decide (zi s.size > 65535) then bif decide (65535 <= s.size) && true then bif Jf (m + 2) 1 && true then bif Jf (m + 2 + (Jg (s.extract 0 65535)).length) 1 && true then k (Res.mk (.ow 5 16 [] 0 (m + 2 + (Jg (s.extract 0 65535)).length) none) [.dead] [.vec false 5 (nl && false && (Jg (s.extract 0 65535)).isEmpty) (List.take (m + 2) (List.take m l ++ [.sc (.int .u8 (IntKind.u8.wrap (zi (s.extract 0 65535).size))), .sc (.int .u8 (IntKind.u8.wrap (Jz IntKind.i64 (zi (s.extract 0 65535).size) 8)))]) ++ Jg (s.extract 0 65535))]) else none else none else none else bif Jf (m + 2) 1 && true then bif Jf (m + 2 + (Jg s).length) 1 && true then k (Res.mk (.ow 5 16 [] 0 (m + 2 + (Jg s).length) none) [.dead] [.vec false 5 (nl && false && (Jg s).isEmpty) (List.take (m + 2) (List.take m l ++ [.sc (.int .u8 (IntKind.u8.wrap (zi s.size))), .sc (.int .u8 (IntKind.u8.wrap (Jz IntKind.i64 (zi s.size) 8)))]) ++ Jg s)]) else none else none
theorem JA9 (f : Nat) (nl : Bool) (l : List PV) (m : Nat) (s : ByteArray) (k : Res -> Option Res) : JL tau JwN Try.f97 (Try.f97.body.get!) Ji2 [] 0 [.ow 5 0 [] 0 m none, .sc (.string s)] [.vec false 5 nl l] k = JsW f nl l m s k := by kernel_rfl
theorem JwO (f : Nat) : Je (Try.f97.body.get!) Ji2 = [] := by kernel_rfl
theorem JwP (f : Nat) : ∀ q ∈ Je (Try.f97.body.get!) Ji2, q.Ok tau Try.prog 1 := by
 rw [JwO f]; intro q hq; cases hq
theorem JqT : Try.prog.funcs[97]? = some Try.f97 := by kernel_rfl
theorem JqU : Try.f97.body = some (Try.f97.body.get!) := by kernel_rfl
theorem JwQ : Enters Try.prog 97 := enters_of JqT (by kernel_rfl) JqU
-- FN code.Byte | code.Text | code.Int | ref1.Byte | ref1.Int | ref1.Text
def ib (n i : Int) : Int := IntKind.u8.wrap (Jz .u64 (IntKind.u64.wrap n) (8 * i))
def Ji3 (n : Int) : List Int := [ib n 0, ib n 1, ib n 2, ib n 3, ib n 4, ib n 5, ib n 6, ib n 7]
def JS : Int -> List Int := hid Ji3
theorem WF (n : Int) : JS n = Ji3 n := by rw [JS, hid_eq]
@[simp] theorem Wp (n : Int) : (JS n).length = 8 := by rw [WF]; rfl
/-- a text's bytes -/
def Joq (s : ByteArray) : List Int := s.data.toList.map fun b => (b.toNat : Int)
def bsI : ByteArray -> List Int := hid Joq
theorem Jhl (s : ByteArray) : bsI s = Joq s := by rw [bsI, hid_eq]
theorem Wb (s : ByteArray) : Jg s = pu .u8 (bsI s) := by rw [Jhl]; simp [Jg, pu, Joq]
@[simp] theorem Vl (s : ByteArray) : (bsI s).length = s.size := by rw [Jhl]; simp [Joq]
theorem JsX (s : ByteArray) : ∀ x ∈ bsI s, 0 <= x /\ x < 256 := by
 intro x hx
 rw [Jhl] at hx
 obtain ⟨b, _, rfl⟩ := List.mem_map.1 hx
 have := b.toNat_lt
 omega
def Y7 (s : ByteArray) : List Int := [IntKind.u8.wrap (zi s.size), IntKind.u8.wrap (Jz .i64 (zi s.size) 8)] ++ bsI s
def Qm : ByteArray -> List Int := hid Y7
theorem W9 (s : ByteArray) : Qm s = Y7 s := by rw [Qm, hid_eq]
@[simp] theorem V4 (s : ByteArray) : (Qm s).length = s.size + 2 := by rw [W9]; simp [Y7]
theorem Ya (x : Int) : 0 <= IntKind.u8.wrap x /\ IntKind.u8.wrap x < 256 := by rw [W6]; omega
theorem Yb (n : Int) : ∀ x ∈ JS n, 0 <= x /\ x < 256 := by
 rw [WF]; intro x hx
 simp only [Ji3, List.mem_cons, List.not_mem_nil, or_false] at hx
 rcases hx with h | h | h | h | h | h | h | h <;> (rw [h]; exact Ya _)
theorem JfJ (s : ByteArray) : ∀ x ∈ Qm s, 0 <= x /\ x < 256 := by
 rw [W9]; intro x hx
 rcases List.mem_append.1 hx with hx | hx
 · simp only [List.mem_cons, List.not_mem_nil, or_false] at hx
   rcases hx with h | h <;> (rw [h]; exact Ya _)
 · exact JsX s x hx
theorem Jor (f : Bool) (b : List PV) (n : Int) (k : Res -> Option Res) : g35 0 true f b n k = k ⟨.ro 5 false false (pu .u8 (JS n)), [], []⟩ := by
 rw [WF]; kernel_rfl
theorem JwR (f : Bool) (b : List PV) (hb : b.length <= 1000000000) (n : Int) (k : Res -> Option Res) : g35 0 false f b n k = k ⟨.ro 5 false false (b ++ pu .u8 (JS n)), [], []⟩ := by
 rw [WF]
 unfold g35
 refine (Jj rfl).trans ?_
 repeat (refine (Ja (by simp [Jf]; omega)).trans ?_)
 repeat rw [List.take_of_length_le (by simp <;> omega)]
 simp only [List.nil_append, List.append_assoc]
 rfl
def Jek : List PV -> List Ent -> (Res -> Option Res) -> Option Res
 | [.ro 5 z f b, .sc (.int .i64 n)], [], k => bif slB z b then k ⟨.ro 5 false false (b ++ pu .u8 (JS n)), [], []⟩ else none
 | _, _, _ => none
def JwS : Sig := { own := [], run := Jek }
theorem JqV : Jh tau Try.prog 35 JwS := Jh.mk' fun xs es k res hl hr => by
 change Jek xs es k = some res at hr
 unfold Jek at hr
 split at hr
 · rename_i z f b n
   obtain ⟨hc, hr2⟩ := JI hr
   clear hr
   obtain ⟨h1, h2⟩ := Wz.1 hc
   have hg : g35 0 z f b n k = some res := by
    cases z with
    | true => obtain rfl := h1 rfl; rw [Jor]; exact hr2
    | false => rw [JwR f b h2]; exact hr2
   exact Qj Jq JsK Js Jwz JwA Jok [.ro] 0 12 (JA3 0) hl rfl ((e35 0 z f b n k).trans hg)
 · cases hr
theorem JfK (s : ByteArray) : s.extract 0 s.size = s := by
 apply ByteArray.ext
 simp [ByteArray.data_extract]
def V5 : List PV -> List Ent -> (Res -> Option Res) -> Option Res
 | [.ro 5 true true [], .sc (.int .i64 n)], [], k => k ⟨.ow 5 16 [] 0 1 none, [], [.vec false 5 false (pu .u8 [IntKind.u8.wrap n])]⟩
 | [.ow 5 0 [] 0 m none, .sc (.int .i64 n)], [.vec false 5 nl l], k => bif Nat.beq m l.length && Nat.ble l.length 1000000000 then k ⟨.ow 5 16 [] 0 (m + 1) none, [.dead], [.vec false 5 false (l ++ pu .u8 [IntKind.u8.wrap n])]⟩ else none
 | _, _, _ => none
def JwT : Sig := { own := [true], run := V5 }
theorem JsY : Jh tau Try.prog 105 JwT := Jh.mk' fun xs es k res hl hr => by
 change V5 xs es k = some res at hr
 unfold V5 at hr
 split at hr
 · rename_i n
   exact Qj Jq Jol Js JqP JqQ Ji0 [] 0 0 (JwD 0) hl rfl ((JA5 0 n k).trans hr)
 · rename_i m n nl l
   obtain ⟨hc, hr⟩ := JI hr
   rw [Bool.and_eq_true, Nat.beq_eq, Nat.ble_eq] at hc
   obtain ⟨rfl, hc⟩ := hc
   have hg : JlD 0 nl l l.length n k = some res := by
    unfold JlD
    rw [Ja (by simp [Jf]; omega), List.take_length, Bool.and_false]
    exact hr
   exact Qj Jq JlC Js JsP JsQ Jej [] 1 0 (JsO 0) hl rfl ((JwE 0 nl l l.length n k).trans hg)
 · cases hr
def JbR : List PV -> List Ent -> (Res -> Option Res) -> Option Res
 | [.ro 5 true true [], .sc (.int .i64 n)], [], k => k ⟨.ow 5 16 [] 0 8 none, [], [.vec false 5 false (pu .u8 (JS n))]⟩
 | [.ow 5 0 [] 0 m none, .sc (.int .i64 n)], [.vec false 5 nl l], k => bif Nat.beq m l.length && Nat.ble l.length 1000000000 then k ⟨.ow 5 16 [] 0 (m + 8) none, [.dead], [.vec false 5 false (l ++ pu .u8 (JS n))]⟩ else none
 | _, _, _ => none
def JBa : Sig := { own := [true], run := JbR }
theorem Jos (n : Int) (k : Res -> Option Res) : g53 0 n k = k ⟨.ow 5 16 [] 0 8 none, [], [.vec false 5 false (pu .u8 (JS n))]⟩ := by
 rw [WF]; kernel_rfl
theorem Jot (nl : Bool) (l : List PV) (hl : l.length <= 1000000000) (n : Int) (k : Res -> Option Res) : JsV 0 nl l l.length n k = k ⟨.ow 5 16 [] 0 (l.length + 8) none, [.dead], [.vec false 5 false (l ++ pu .u8 (JS n))]⟩ := by
 rw [WF]
 unfold JsV
 repeat (refine (Ja (by simp [Jf]; omega)).trans ?_)
 repeat rw [List.take_of_length_le (by simp <;> omega)]
 simp only [Bool.and_false, List.append_assoc]
 rfl
theorem JqW : Jh tau Try.prog 53 JBa := Jh.mk' fun xs es k res hl hr => by
 change JbR xs es k = some res at hr
 unfold JbR at hr
 split at hr
 · rename_i n
   exact Qj Jq JsR Js JwG JwH Jom [] 0 12 (JA7 0) hl rfl ((e53 0 n k).trans ((Jos n k).trans hr))
 · rename_i m n nl l
   obtain ⟨hc, hr⟩ := JI hr
   rw [Bool.and_eq_true, Nat.beq_eq, Nat.ble_eq] at hc
   obtain ⟨rfl, hc⟩ := hc
   exact Qj Jq Jon Js JwL JwM Ji1 [] 1 12 (JwK 0) hl rfl ((JA8 0 nl l l.length n k).trans ((Jot nl l hc n k).trans hr))
 · cases hr
def JbS : List PV -> List Ent -> (Res -> Option Res) -> Option Res
 | [.ow 5 0 [] 0 m none, .sc (.string s)], [.vec false 5 nl l], k => bif Nat.beq m l.length && Nat.ble l.length 1000000000 && Nat.ble s.size 65535 then k ⟨.ow 5 16 [] 0 (m + (s.size + 2)) none, [.dead], [.vec false 5 false (l ++ pu .u8 (Qm s))]⟩ else none
 | _, _, _ => none
def JBb : Sig := { own := [true], run := JbS }
theorem JwU : Jh tau Try.prog 97 JBb := Jh.mk' fun xs es k res hl hr => by
 change JbS xs es k = some res at hr
 unfold JbS at hr
 split at hr
 · rename_i m s nl l
   obtain ⟨hc, hr⟩ := JI hr
   rw [Bool.and_eq_true, Bool.and_eq_true, Nat.beq_eq, Nat.ble_eq, Nat.ble_eq] at hc
   obtain ⟨⟨rfl, hc⟩, hs⟩ := hc
   have hg : JsW 0 nl l l.length s k = some res := by
    unfold JsW
    have hob : (Jg s).length = s.size := by rw [Wb]; simp
    rw [Jj (by simp only [zi, decide_eq_false_iff_not]; omega), Ja (by simp [Jf]; omega), Ja (by simp [Jf, hob]; omega), List.take_length, List.take_of_length_le (by simp), hob, Bool.and_false, Bool.false_and]
    rw [W9, Y7] at hr
    rw [Wb, show l.length + 2 + s.size = l.length + (s.size + 2) from by omega]
    simpa [pu] using hr
   exact Qj Jq Jop Js JqT JqU Ji2 [] 1 0 (JwP 0) hl rfl ((JA9 0 nl l l.length s k).trans hg)
 · cases hr
def Ja4 : List PV -> List Ent -> (Res -> Option Res) -> Option Res
 | [.ro 5 z f b, .sc (.int .i64 n)], [], k => bif slB z b then k ⟨.ow 5 16 [] 0 (b.length + 1) none, [], [.vec false 5 false (b ++ pu .u8 [IntKind.u8.wrap n])]⟩ else none
 | _, _, _ => none
def JwV : Sig := { own := [], run := Ja4 }
theorem JsZ : Jh tau Try.prog 130 JwV := Jh.mk' fun xs es k res hl hr => by
 change Ja4 xs es k = some res at hr
 unfold Ja4 at hr
 split at hr
 · rename_i z f b n
   obtain ⟨hc, hr⟩ := JI hr
   obtain ⟨h1, h2⟩ := Wz.1 hc
   have hg : JlB 0 z f b n k = some res := by
    have hf : Jv [PV.ro 5 z f b, PV.ro 5 false false [PV.sc (Value.int IntKind.u8 (IntKind.u8.wrap n))]] = b ++ pu .u8 [IntKind.u8.wrap n] := by simp [PV.els, pu]
    have hf2 : Jv [PV.ro 5 z f b, PV.ro 5 false true [PV.sc (Value.int IntKind.u8 (IntKind.u8.wrap n))]] = b ++ pu .u8 [IntKind.u8.wrap n] := by simp [PV.els, pu]
    have he : (b ++ pu .u8 [IntKind.u8.wrap n]).isEmpty = false := by simp
    have hlen : (b ++ pu .u8 [IntKind.u8.wrap n]).length = b.length + 1 := by simp
    unfold JlB
    simp only [hf, hf2, List.take_length, List.drop_zero, List.take_succ_cons, List.take_zero, he, hlen, Ent.nil]
    rw [Ja (by simp; omega)]
    exact hr
   exact Qj Jq JlA Js JsG JsH Jei [] 0 0 (JsF 0) hl rfl ((Jwk 0 z f b n k).trans hg)
 · cases hr
def Jel : List PV -> List Ent -> (Res -> Option Res) -> Option Res
 | [.ro 5 z f b, .sc (.string s)], [], k => bif slB z b && Nat.ble s.size 65535 then k ⟨.ow 5 16 [] 0 (b.length + (s.size + 2)) none, [], [.vec false 5 false (b ++ pu .u8 (Qm s))]⟩ else none
 | _, _, _ => none
def JBc : Sig := { own := [], run := Jel }
theorem JwW : Jh tau Try.prog 92 JBc := Jh.mk' fun xs es k res hl hr => by
 change Jel xs es k = some res at hr
 unfold Jel at hr
 split at hr
 · rename_i z f b s
   obtain ⟨hc, hr⟩ := JI hr
   rw [Bool.and_eq_true, Nat.ble_eq] at hc
   obtain ⟨h1, h2⟩ := Wz.1 hc.1
   have hg : JsI 0 z f b s k = some res := by
    have hm : JK (zi s.size) 65535 = (s.size : Int) := by unfold JK; rw [if_neg (by simp only [zi]; omega)]
    unfold JsI
    simp only [hm, Int.toNat_natCast, JfK]
    have hf : ∀ x y : Bool, Jv [PV.ro 5 z f b, PV.ro 5 false x [PV.sc (Value.int IntKind.u8 (IntKind.u8.wrap (zi s.size))), PV.sc (Value.int IntKind.u8 (IntKind.u8.wrap (Jz IntKind.i64 (zi s.size) 8)))], PV.ro 5 false y (List.take s.size (Jg s))] = b ++ pu .u8 (Qm s) := by
     intro x y
     rw [Wb, List.take_of_length_le (by simp), W9, Y7]
     simp [PV.els, pu]
    have he : (b ++ pu .u8 (Qm s)).isEmpty = false := by
     rw [W9, Y7]; simp
    have hlen : (b ++ pu .u8 (Qm s)).length = b.length + (s.size + 2) := by simp
    simp only [hf, List.take_length, List.drop_zero, List.take_succ_cons, List.take_zero, he, hlen, Ent.nil]
    rw [Ja (by simp), Ja (by simp [Jf]; omega), Ja (by simp; omega)]
    exact hr
   exact Qj Jq Joi Js Jwo Jwp JiY [] 0 0 (Jwn 0) hl rfl ((JAY 0 z f b s k).trans hg)
 · cases hr
def apI : List PV -> Int -> List PV := hid fun b n => b ++ pu .u8 (JS n)
def apY : List PV -> Int -> List PV := hid fun b n => b ++ pu .u8 [IntKind.u8.wrap n]
def apT : List PV -> ByteArray -> List PV := hid fun b s => b ++ pu .u8 (Qm s)
def okZ : Bool -> List PV -> Bool := hid slB
def okL : Nat -> List PV -> Bool := hid fun m l => Nat.beq m l.length && Nat.ble l.length 1000000000
theorem Y8 (b : List PV) (n : Int) : apI b n = b ++ pu .u8 (JS n) := by rw [apI, hid_eq]
theorem Vm (b : List PV) (n : Int) : apY b n = b ++ pu .u8 [IntKind.u8.wrap n] := by rw [apY, hid_eq]
theorem XA (b : List PV) (s : ByteArray) : apT b s = b ++ pu .u8 (Qm s) := by rw [apT, hid_eq]
theorem Vn (z : Bool) (b : List PV) : okZ z b = slB z b := by rw [okZ, hid_eq]
theorem Jem (m : Nat) (l : List PV) : okL m l = (Nat.beq m l.length && Nat.ble l.length 1000000000) := by rw [okL, hid_eq]
def Jhm : List PV -> List Ent -> (Res -> Option Res) -> Option Res
 | [.ro 5 z f b, .sc (.int .i64 n)], [], k => bif okZ z b then k ⟨.ro 5 false false (apI b n), [], []⟩ else none
 | _, _, _ => none
def JwX : Sig := { own := [], run := Jhm }
theorem JwY : Jh tau Try.prog 35 JwX := fun xs es k res hl hr => JqV xs es k res hl (by
 change Jhm xs es k = some res at hr
 show Jek xs es k = some res
 unfold Jhm at hr
 split at hr
 · rw [Vn, Y8] at hr; exact hr
 · cases hr)
def Jen : List PV -> List Ent -> (Res -> Option Res) -> Option Res
 | [.ro 5 z f b, .sc (.int .i64 n)], [], k => bif okZ z b then k ⟨.ow 5 16 [] 0 (apY b n).length none, [], [.vec false 5 false (apY b n)]⟩ else none
 | _, _, _ => none
def JqX : Sig := { own := [], run := Jen }
theorem Js0 : Jh tau Try.prog 130 JqX := fun xs es k res hl hr => JsZ xs es k res hl (by
 change Jen xs es k = some res at hr
 show Ja4 xs es k = some res
 unfold Jen at hr
 split at hr
 · rename_i z f b n
   rw [Vn, Vm, show (b ++ pu .u8 [IntKind.u8.wrap n]).length = b.length + 1 by simp] at hr; exact hr
 · cases hr)
def Jhn : List PV -> List Ent -> (Res -> Option Res) -> Option Res
 | [.ro 5 z f b, .sc (.string s)], [], k => bif okZ z b && Nat.ble s.size 65535 then k ⟨.ow 5 16 [] 0 (apT b s).length none, [], [.vec false 5 false (apT b s)]⟩ else none
 | _, _, _ => none
def Js1 : Sig := { own := [], run := Jhn }
theorem JqY : Jh tau Try.prog 92 Js1 := fun xs es k res hl hr => JwW xs es k res hl (by
 change Jhn xs es k = some res at hr
 show Jel xs es k = some res
 unfold Jhn at hr
 split at hr
 · rename_i z f b s
   rw [Vn, XA, show (b ++ pu .u8 (Qm s)).length = b.length + (s.size + 2) by simp] at hr; exact hr
 · cases hr)
def Jeo : List PV -> List Ent -> (Res -> Option Res) -> Option Res
 | [.ro 5 true true [], .sc (.int .i64 n)], [], k => k ⟨.ow 5 16 [] 0 (apY [] n).length none, [], [.vec false 5 false (apY [] n)]⟩
 | [.ow 5 0 [] 0 m none, .sc (.int .i64 n)], [.vec false 5 nl l], k => bif okL m l then k ⟨.ow 5 16 [] 0 (apY l n).length none, [.dead], [.vec false 5 false (apY l n)]⟩ else none
 | _, _, _ => none
def JlE : Sig := { own := [true], run := Jeo }
theorem JlF : Jh tau Try.prog 105 JlE := fun xs es k res hl hr => JsY xs es k res hl (by
 change Jeo xs es k = some res at hr
 show V5 xs es k = some res
 unfold Jeo at hr
 split at hr
 · rw [Vm] at hr; exact hr
 · rename_i m n nl l
   rw [Jem, Vm] at hr
   obtain ⟨hc, hr⟩ := JI hr
   have hm : m = l.length := by rw [Bool.and_eq_true, Nat.beq_eq] at hc; exact hc.1
   have h2 : V5 [.ow 5 0 [] 0 m none, .sc (.int .i64 n)] [.vec false 5 nl l] k = k ⟨.ow 5 16 [] 0 (m + 1) none, [.dead], [.vec false 5 false (l ++ pu .u8 [IntKind.u8.wrap n])]⟩ := Ja hc
   rw [h2, ← hr, hm]; simp
 · cases hr)
def Jho : List PV -> List Ent -> (Res -> Option Res) -> Option Res
 | [.ow 5 0 [] 0 m none, .sc (.int .i64 n)], [.vec false 5 nl l], k => bif okL m l then k ⟨.ow 5 16 [] 0 (apI l n).length none, [.dead], [.vec false 5 false (apI l n)]⟩ else none
 | _, _, _ => none
def JwZ : Sig := { own := [true], run := Jho }
theorem JqZ : Jh tau Try.prog 53 JwZ := fun xs es k res hl hr => JqW xs es k res hl (by
 change Jho xs es k = some res at hr
 show JbR xs es k = some res
 unfold Jho at hr
 split at hr
 · rename_i m n nl l
   rw [Jem, Y8] at hr
   obtain ⟨hc, hr⟩ := JI hr
   have hm : m = l.length := by rw [Bool.and_eq_true, Nat.beq_eq] at hc; exact hc.1
   have h2 : JbR [.ow 5 0 [] 0 m none, .sc (.int .i64 n)] [.vec false 5 nl l] k = k ⟨.ow 5 16 [] 0 (m + 8) none, [.dead], [.vec false 5 false (l ++ pu .u8 (JS n))]⟩ := Ja hc
   rw [h2, ← hr, hm]; simp
 · cases hr)
def Jhp : List PV -> List Ent -> (Res -> Option Res) -> Option Res
 | [.ow 5 0 [] 0 m none, .sc (.string s)], [.vec false 5 nl l], k => bif okL m l && Nat.ble s.size 65535 then k ⟨.ow 5 16 [] 0 (apT l s).length none, [.dead], [.vec false 5 false (apT l s)]⟩ else none
 | _, _, _ => none
def Jw0 : Sig := { own := [true], run := Jhp }
theorem Jq0 : Jh tau Try.prog 97 Jw0 := fun xs es k res hl hr => JwU xs es k res hl (by
 change Jhp xs es k = some res at hr
 show JbS xs es k = some res
 unfold Jhp at hr
 split at hr
 · rename_i m s nl l
   rw [Jem, XA] at hr
   obtain ⟨hc, hr⟩ := JI hr
   have hm : m = l.length := by simp only [Bool.and_eq_true, Nat.beq_eq] at hc; exact hc.1.1
   have h2 : JbS [.ow 5 0 [] 0 m none, .sc (.string s)] [.vec false 5 nl l] k = k ⟨.ow 5 16 [] 0 (m + (s.size + 2)) none, [.dead], [.vec false 5 false (l ++ pu .u8 (Qm s))]⟩ := Ja hc
   rw [h2, ← hr, hm]; simp
 · cases hr)
end
end Go.Proofs.Ythpmachmnoljeaa.Rx
