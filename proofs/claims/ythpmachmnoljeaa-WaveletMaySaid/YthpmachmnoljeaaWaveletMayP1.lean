/- What the functions of this law compute, and their plain laws. Conditions: none. -/
import Derived.Test.YthpmachmnoljeaaProg
import Derived.KernelRfl
import Derived.Test.YthpmachmnoljeaaWaveletMayZ4
namespace Go.Proofs.Ythpmachmnoljeaa.Rx
noncomputable section
open Go
set_option linter.unusedVariables false
set_option linter.unusedSimpArgs false
set_option maxRecDepth 100000
set_option maxHeartbeats 0
def tys : List TypeId := [1, 2, 3, 4, 5, 9, 12, 21, 22, 23, 24, 25, 26, 28, 29, 30, 31, 32, 33, 34, 35, 36, 37, 38, 39, 40, 41, 42, 43, 45, 46, 47, 48, 49, 50, 51, 52, 53, 55, 56, 57, 58, 59, 60, 61, 62, 63, 64, 65, 66, 67, 68, 69, 70, 72, 73, 74, 75, 76, 77, 78, 79, 80, 81, 83, 85, 86, 87, 88, 89, 90, 91, 92, 94, 95, 96, 97, 98, 99, 100, 101, 102, 103, 104, 105, 106, 107, 109, 110, 111, 112, 113, 114, 115, 116, 117, 118, 120, 122, 123, 124, 125, 126, 128, 129, 130, 131, 132, 133, 134, 135, 136, 137, 138, 139, 140, 141, 142, 143, 144, 145, 146, 148, 149, 150, 152, 154, 155, 156, 157, 158, 159, 160, 161, 162, 163, 164, 165, 166, 167, 168, 169, 170, 171, 172, 173, 174, 175, 176, 177, 178, 179, 180, 181, 182, 183, 185, 186, 187, 188, 189, 190, 191, 192, 201]
def JA8 : TypeId -> Option PV := fun t =>
 bif t == 1 then some (.sc .nilFunc) else
 bif t == 2 then some (.sc (.int .i64 0)) else
 bif t == 3 then some (.sc (.int .i64 0)) else
 bif t == 4 then some (.sc (.bool false)) else
 bif t == 5 then some (.sc (.int .u8 0)) else
 bif t == 9 then some (.sc (.string ByteArray.empty)) else
 bif t == 12 then some (.sc (.int .u64 0)) else
 bif t == 21 then some (.sc (.int .i32 0)) else
 bif t == 22 then some (.ro 69 true true []) else
 bif t == 23 then some (.sc .nilFunc) else
 bif t == 24 then some (.sc .nilFunc) else
 bif t == 25 then some (.ro 51 true true []) else
 bif t == 26 then some (.ro 58 true true []) else
 bif t == 28 then some (.sc .nilFunc) else
 bif t == 29 then some (.ro 5 true true []) else
 bif t == 30 then some (.st 30 (List.replicate 3 (.ro 5 true true []))) else
 bif t == 31 then some (.st 31 (List.replicate 3 (.ro 5 true true []))) else
 bif t == 32 then some (.sc .nilFunc) else
 bif t == 33 then some (.st 33 [.sc (.int .i64 0), .sc (.int .i64 0)]) else
 bif t == 34 then some (.st 34 [.sc (.int .i64 0), .sc (.int .i64 0)]) else
 bif t == 35 then some (.ro 42 true true []) else
 bif t == 36 then some (.ar 36 (List.replicate 32 (.sc (.int .u8 0)))) else
 bif t == 37 then some (.ar 37 (List.replicate 32 (.sc (.int .u8 0)))) else
 bif t == 38 then some (.st 38 [.st 34 [.sc (.int .i64 0), .sc (.int .i64 0)], .sc (.string ByteArray.empty), .ro 42 true true [], .sc (.int .i64 0), .ar 37 (List.replicate 32 (.sc (.int .u8 0)))]) else
 bif t == 39 then some (.st 39 [.st 34 [.sc (.int .i64 0), .sc (.int .i64 0)], .sc (.string ByteArray.empty), .ro 42 true true [], .sc (.int .i64 0), .ar 37 (List.replicate 32 (.sc (.int .u8 0)))]) else
 bif t == 40 then some (.sc .nilFunc) else
 bif t == 41 then some (.st 41 [.sc (.int .i64 0), .sc (.int .i64 0)]) else
 bif t == 42 then some (.st 42 [.sc (.int .i64 0), .sc (.int .i64 0)]) else
 bif t == 43 then some (.sc (.int .i64 0)) else
 bif t == 45 then some (.sc .nilFunc) else
 bif t == 46 then some (.st 46 [.ro 5 true true [], .ar 37 (List.replicate 32 (.sc (.int .u8 0)))]) else
 bif t == 47 then some (.st 47 [.ro 5 true true [], .ar 37 (List.replicate 32 (.sc (.int .u8 0)))]) else
 bif t == 48 then some (.ro 113 true true []) else
 bif t == 49 then some (.ro 113 true true []) else
 bif t == 50 then some (.st 50 [.st 47 [.ro 5 true true [], .ar 37 (List.replicate 32 (.sc (.int .u8 0)))], .sc (.int .i64 0), .ro 113 true true [], .ar 37 (List.replicate 32 (.sc (.int .u8 0))), .ar 37 (List.replicate 32 (.sc (.int .u8 0)))]) else
 bif t == 51 then some (.st 51 [.st 47 [.ro 5 true true [], .ar 37 (List.replicate 32 (.sc (.int .u8 0)))], .sc (.int .i64 0), .ro 113 true true [], .ar 37 (List.replicate 32 (.sc (.int .u8 0))), .ar 37 (List.replicate 32 (.sc (.int .u8 0)))]) else
 bif t == 52 then some (.st 52 [.st 42 [.sc (.int .i64 0), .sc (.int .i64 0)], .sc (.int .i64 0), .sc (.int .i64 0), .ar 37 (List.replicate 32 (.sc (.int .u8 0))), .sc (.int .i64 0), .ro 113 true true [], .st 42 [.sc (.int .i64 0), .sc (.int .i64 0)]]) else
 bif t == 53 then some (.st 53 [.st 42 [.sc (.int .i64 0), .sc (.int .i64 0)], .sc (.int .i64 0), .sc (.int .i64 0), .ar 37 (List.replicate 32 (.sc (.int .u8 0))), .sc (.int .i64 0), .ro 113 true true [], .st 42 [.sc (.int .i64 0), .sc (.int .i64 0)]]) else
 bif t == 55 then some (.sc .nilFunc) else
 bif t == 56 then some (.sc .nilFunc) else
 bif t == 57 then some (.ro 3 true true []) else
 bif t == 58 then some (.st 58 [.st 34 [.sc (.int .i64 0), .sc (.int .i64 0)], .sc (.string ByteArray.empty), .ro 42 true true [], .sc (.int .i64 0), .ar 37 (List.replicate 32 (.sc (.int .u8 0)))]) else
 bif t == 59 then some (.sc .nilFunc) else
 bif t == 60 then some (.sc .nilFunc) else
 bif t == 61 then some (.sc .nilFunc) else
 bif t == 62 then some (.sc .nilFunc) else
 bif t == 63 then some (.sc .nilFunc) else
 bif t == 64 then some (.sc .nilFunc) else
 bif t == 65 then some (.sc .nilFunc) else
 bif t == 66 then some (.sc .nilFunc) else
 bif t == 67 then some (.sc .nilFunc) else
 bif t == 68 then some (.st 68 [.sc (.int .i64 0), .sc (.int .i64 0), .sc (.int .i64 0), .ro 3 true true []]) else
 bif t == 69 then some (.st 69 [.sc (.int .i64 0), .sc (.int .i64 0), .sc (.int .i64 0), .ro 3 true true []]) else
 bif t == 70 then some (.sc .nilFunc) else
 bif t == 72 then some (.sc .nilFunc) else
 bif t == 73 then some (.sc .nilFunc) else
 bif t == 74 then some (.sc .nilFunc) else
 bif t == 75 then some (.ro 29 true true []) else
 bif t == 76 then some (.st 76 [.sc (.int .i64 0), .sc (.int .i64 0), .sc (.int .i64 0), .st 34 [.sc (.int .i64 0), .sc (.int .i64 0)], .st 42 [.sc (.int .i64 0), .sc (.int .i64 0)], .sc (.int .i64 0), .sc (.int .i64 0), .st 42 [.sc (.int .i64 0), .sc (.int .i64 0)], .sc (.int .i64 0), .sc (.int .i64 0), .ro 29 true true []]) else
 bif t == 77 then some (.st 77 [.sc (.int .i64 0), .sc (.int .i64 0), .sc (.int .i64 0), .st 34 [.sc (.int .i64 0), .sc (.int .i64 0)], .st 42 [.sc (.int .i64 0), .sc (.int .i64 0)], .sc (.int .i64 0), .sc (.int .i64 0), .st 42 [.sc (.int .i64 0), .sc (.int .i64 0)], .sc (.int .i64 0), .sc (.int .i64 0), .ro 29 true true []]) else
 bif t == 78 then some (.sc .nilFunc) else
 bif t == 79 then some (.sc .nilFunc) else
 bif t == 80 then some (.sc .nilFunc) else
 bif t == 81 then some (.sc .nilFunc) else
 bif t == 83 then some (.sc .nilFunc) else
 bif t == 85 then some (.sc .nilFunc) else
 bif t == 86 then some (.sc .nilFunc) else
 bif t == 87 then some (.sc .nilFunc) else
 bif t == 88 then some (.sc (.complex .f64 0 0)) else
 bif t == 89 then some (.sc (.float .f64 0)) else
 bif t == 90 then some (.ro 88 true true []) else
 bif t == 91 then some (.sc .nilFunc) else
 bif t == 92 then some (.sc .nilFunc) else
 bif t == 94 then some (.sc .nilFunc) else
 bif t == 95 then some (.sc .nilFunc) else
 bif t == 96 then some (.sc (.pointer none)) else
 bif t == 97 then some (.st 97 [.st 39 [.st 34 [.sc (.int .i64 0), .sc (.int .i64 0)], .sc (.string ByteArray.empty), .ro 42 true true [], .sc (.int .i64 0), .ar 37 (List.replicate 32 (.sc (.int .u8 0)))], .st 53 [.st 42 [.sc (.int .i64 0), .sc (.int .i64 0)], .sc (.int .i64 0), .sc (.int .i64 0), .ar 37 (List.replicate 32 (.sc (.int .u8 0))), .sc (.int .i64 0), .ro 113 true true [], .st 42 [.sc (.int .i64 0), .sc (.int .i64 0)]]]) else
 bif t == 98 then some (.st 98 [.st 39 [.st 34 [.sc (.int .i64 0), .sc (.int .i64 0)], .sc (.string ByteArray.empty), .ro 42 true true [], .sc (.int .i64 0), .ar 37 (List.replicate 32 (.sc (.int .u8 0)))], .st 53 [.st 42 [.sc (.int .i64 0), .sc (.int .i64 0)], .sc (.int .i64 0), .sc (.int .i64 0), .ar 37 (List.replicate 32 (.sc (.int .u8 0))), .sc (.int .i64 0), .ro 113 true true [], .st 42 [.sc (.int .i64 0), .sc (.int .i64 0)]]]) else
 bif t == 99 then some (.sc .nilFunc) else
 bif t == 100 then some (.sc .nilFunc) else
 bif t == 101 then some (.sc .nilFunc) else
 bif t == 102 then some (.sc (.pointer none)) else
 bif t == 103 then some (.sc .nilFunc) else
 bif t == 104 then some (.sc .nilFunc) else
 bif t == 105 then some (.sc .nilFunc) else
 bif t == 106 then some (.sc .nilFunc) else
 bif t == 107 then some (.sc .nilFunc) else
 bif t == 109 then some (.sc .nilFunc) else
 bif t == 110 then some (.sc .nilFunc) else
 bif t == 111 then some (.sc .nilFunc) else
 bif t == 112 then some (.st 112 [.sc (.int .i64 0), .sc (.int .i64 0), .sc (.string ByteArray.empty)]) else
 bif t == 113 then some (.st 113 [.sc (.int .i64 0), .sc (.int .i64 0), .sc (.string ByteArray.empty)]) else
 bif t == 114 then some (.sc .nilFunc) else
 bif t == 115 then some (.sc .nilFunc) else
 bif t == 116 then some (.sc .nilFunc) else
 bif t == 117 then some (.sc .nilFunc) else
 bif t == 118 then some (.sc .nilFunc) else
 bif t == 120 then some (.sc .nilFunc) else
 bif t == 122 then some (.sc .nilFunc) else
 bif t == 123 then some (.sc .nilFunc) else
 bif t == 124 then some (.sc .nilFunc) else
 bif t == 125 then some (.sc (.pointer none)) else
 bif t == 126 then some (.sc .nilFunc) else
 bif t == 128 then some (.sc .nilFunc) else
 bif t == 129 then some (.sc .nilFunc) else
 bif t == 130 then some (.sc .nilFunc) else
 bif t == 131 then some (.sc .nilFunc) else
 bif t == 132 then some (.sc .nilFunc) else
 bif t == 133 then some (.sc .nilFunc) else
 bif t == 134 then some (.st 134 [.ro 5 true true [], .sc (.int .i64 0), .sc (.int .i64 0)]) else
 bif t == 135 then some (.st 135 [.ro 5 true true [], .sc (.int .i64 0), .sc (.int .i64 0)]) else
 bif t == 136 then some (.sc .nilFunc) else
 bif t == 137 then some (.sc .nilFunc) else
 bif t == 138 then some (.sc .nilFunc) else
 bif t == 139 then some (.sc .nilFunc) else
 bif t == 140 then some (.sc (.int .u64 0)) else
 bif t == 141 then some (.sc (.int .u32 0)) else
 bif t == 142 then some (.ar 142 (List.replicate 8 (.sc (.int .u32 0)))) else
 bif t == 143 then some (.ar 143 (List.replicate 8 (.sc (.int .u32 0)))) else
 bif t == 144 then some (.sc .nilFunc) else
 bif t == 145 then some (.sc .nilFunc) else
 bif t == 146 then some (.sc .nilFunc) else
 bif t == 148 then some (.sc .nilFunc) else
 bif t == 149 then some (.sc .nilFunc) else
 bif t == 150 then some (.sc .nilFunc) else
 bif t == 152 then some (.sc .nilFunc) else
 bif t == 154 then some (.sc .nilFunc) else
 bif t == 155 then some (.sc .nilFunc) else
 bif t == 156 then some (.sc .nilFunc) else
 bif t == 157 then some (.sc .nilFunc) else
 bif t == 158 then some (.sc (.int .u64 0)) else
 bif t == 159 then some (.ar 159 (List.replicate 64 (.sc (.int .u32 0)))) else
 bif t == 160 then some (.sc .nilFunc) else
 bif t == 161 then some (.sc .nilFunc) else
 bif t == 162 then some (.sc .nilFunc) else
 bif t == 163 then some (.sc .nilFunc) else
 bif t == 164 then some (.sc .nilFunc) else
 bif t == 165 then some (.st 165 [.ro 5 true true [], .sc (.int .i64 0)]) else
 bif t == 166 then some (.st 166 [.ro 5 true true [], .sc (.int .i64 0)]) else
 bif t == 167 then some (.ro 170 true true []) else
 bif t == 168 then some (.sc .nilFunc) else
 bif t == 169 then some (.sc (.pointer none)) else
 bif t == 170 then some (.sc (.pointer none)) else
 bif t == 171 then some (.sc .nilFunc) else
 bif t == 172 then some (.sc .nilFunc) else
 bif t == 173 then some (.ar 173 (List.replicate 64 (.sc (.int .u8 0)))) else
 bif t == 174 then some (.ar 174 (List.replicate 64 (.sc (.int .u8 0)))) else
 bif t == 175 then some (.sc .nilFunc) else
 bif t == 176 then some (.sc .nilFunc) else
 bif t == 177 then some (.sc .nilFunc) else
 bif t == 178 then some (.sc .nilFunc) else
 bif t == 179 then some (.sc .nilFunc) else
 bif t == 180 then some (.sc .nilFunc) else
 bif t == 181 then some (.sc .nilFunc) else
 bif t == 182 then some (.sc .nilFunc) else
 bif t == 183 then some (.sc .nilFunc) else
 bif t == 185 then some (.sc .nilFunc) else
 bif t == 186 then some (.sc .nilFunc) else
 bif t == 187 then some (.sc .nilFunc) else
 bif t == 188 then some (.sc .nilFunc) else
 bif t == 189 then some (.sc .nilFunc) else
 bif t == 190 then some (.ro 35 true true []) else
 bif t == 191 then some (.sc .nilFunc) else
 bif t == 192 then some (.sc .nilFunc) else
 bif t == 201 then some (.sc (.pointer none)) else
 none
def tau : Tab := V2 Try.prog tys JA8
theorem Jr : TabOk tau Try.prog := Jln (by kernel_rfl)
theorem Js : Try.prog.follows .mixedOrders = true := by kernel_rfl
def F0 : Fns := fun _ => none
theorem JE : Jy tau Try.prog F0 := fun g sg h => by cases h



def JvF : Fns := F0
theorem Jod : Jy tau Try.prog JvF := JE
def JiZ : An := (.seq .leaf (.seq (.seq .leaf (.block none (.seq (.seq .leaf (.cond .leaf .leaf)) (.cond (.seq .leaf (.cond (.seq .leaf .leaf) .leaf)) (.seq .leaf (.cond (.seq .leaf (.cond (.seq .leaf .leaf) .leaf)) (.seq .leaf .leaf))))))) (.seq (.seq .leaf (.cond (.seq .leaf .leaf) .leaf)) (.seq .leaf .leaf))))
def Joe (f : Nat) (y0 c_N : Int) (c_S : ByteArray) (k : Res -> Option Res) : Option Res := bif y0 == 1 then bif y0 == 1 then bif decide (c_N < 1) then k (Res.mk (.sc (.int .i64 1)) [] []) else bif decide (c_N > 120) then k (Res.mk (.sc (.int .i64 1)) [] []) else bif !JaX c_S (ByteArray.mk (Array.mk [])) then k (Res.mk (.sc (.int .i64 1)) [] []) else bif decide (zi c_S.size > 120) then k (Res.mk (.sc (.int .i64 5)) [] []) else k (Res.mk (.sc (.int .i64 0)) [] []) else bif y0 == 2 then bif c_N != 0 then k (Res.mk (.sc (.int .i64 1)) [] []) else bif JaX c_S (ByteArray.mk (Array.mk [])) then k (Res.mk (.sc (.int .i64 1)) [] []) else bif decide (zi c_S.size > 120) then k (Res.mk (.sc (.int .i64 5)) [] []) else k (Res.mk (.sc (.int .i64 0)) [] []) else k (Res.mk (.sc (.int .i64 3)) [] []) else bif y0 == 3 then bif decide (c_N < 1) then k (Res.mk (.sc (.int .i64 1)) [] []) else bif decide (c_N > 120) then k (Res.mk (.sc (.int .i64 1)) [] []) else bif !JaX c_S (ByteArray.mk (Array.mk [])) then k (Res.mk (.sc (.int .i64 1)) [] []) else bif decide (zi c_S.size > 120) then k (Res.mk (.sc (.int .i64 5)) [] []) else k (Res.mk (.sc (.int .i64 0)) [] []) else bif y0 == 2 then bif c_N != 0 then k (Res.mk (.sc (.int .i64 1)) [] []) else bif JaX c_S (ByteArray.mk (Array.mk [])) then k (Res.mk (.sc (.int .i64 1)) [] []) else bif decide (zi c_S.size > 120) then k (Res.mk (.sc (.int .i64 5)) [] []) else k (Res.mk (.sc (.int .i64 0)) [] []) else k (Res.mk (.sc (.int .i64 3)) [] [])
theorem JA9 (f : Nat) (y0 c_N : Int) (c_S : ByteArray) (k : Res -> Option Res) : JM tau JvF Try.f124 (Try.f124.body.get!) JiZ [.ro] 0 [.st 113 [.sc (.int .i64 y0), .sc (.int .i64 c_N), .sc (.string c_S)]] [] k = Joe f y0 c_N c_S k := by kernel_rfl
theorem JvG (f : Nat) : Je (Try.f124.body.get!) JiZ = [] := by kernel_rfl
theorem JvH (f : Nat) : ∀ q ∈ Je (Try.f124.body.get!) JiZ, q.Ok tau Try.prog 0 := by
 rw [JvG f]; intro q hq; cases hq
theorem JqW : Try.prog.funcs[124]? = some Try.f124 := by kernel_rfl
theorem JqX : Try.f124.body = some (Try.f124.body.get!) := by kernel_rfl
theorem JvI : Enters Try.prog 124 := enters_of JqW (by kernel_rfl) JqX
def Jhq : List PV -> List Ent -> (Res -> Option Res) -> Option Res
 | [.st 113 [.sc (.int .i64 y0), .sc (.int .i64 c_N), .sc (.string c_S)]], [], k => Joe 0 y0 c_N c_S k
 | _, _, _ => none
def JBa : Sig := { own := [], run := Jhq }
theorem JvJ : Jh tau Try.prog 124 JBa := JW Jr Jod Js JqW JqX JiZ [.ro] 0 [] Jhq (JvH 0) fun xs es k res hr => by
 unfold Jhq at hr
 split at hr
 · exact ⟨rfl, 0, (JA9 0 _ _ _  _).trans hr⟩
 · cases hr

-- FN op.check | ref4.check
structure CV where
 (kd n : Int) (s : ByteArray)
def JfL (c : CV) : Int :=
 bif c.kd == 1 || c.kd == 3 then (bif decide (c.n < 1) || (decide (c.n > 120) || !(c.s.size == 0)) then 1 else 0)
 else bif c.kd == 2 then (bif !(c.n == 0) || c.s.size == 0 then 1 else bif decide (zi c.s.size > 120) then 5 else 0) else 3
def ckC : CV -> Int := hid JfL
theorem Y2 (c : CV) : ckC c = JfL c := by rw [ckC, hid_eq]
theorem Jls (s : ByteArray) : JaX s (ByteArray.mk (Array.mk [])) = (s.size == 0) := by
 rw [Jof]
 cases h : (s.size == 0) with
 | true =>
  have hs : s.size = 0 := by simpa using h
  refine decide_eq_true (ByteArray.ext (Array.eq_empty_of_size_eq_zero hs))
 | false =>
  refine decide_eq_false fun he => ?_
  rw [he] at h
  exact absurd h (by decide)
theorem Jog (kd n : Int) (s : ByteArray) (k : Res -> Option Res) : Joe 0 kd n s k = k ⟨.sc (.int .i64 (ckC ⟨kd, n, s⟩)), [], []⟩ := by
 rw [Y2]
 unfold Joe JfL
 simp only [Jls, bne]
 have hcomb : (s.size == 0) = true -> decide (zi s.size > 120) = false := fun h => by
  have : s.size = 0 := by simpa using h
  rw [this]; decide
 generalize (s.size == 0) = e0 at *
 generalize decide (zi s.size > 120) = e1 at *
 generalize decide (n < 1) = a
 generalize decide (n > 120) = b
 generalize (n == 0) = c
 generalize (kd == 1) = d1
 generalize (kd == 2) = d2
 generalize (kd == 3) = d3
 cases d1 <;> cases d3 <;> cases d2 <;> cases e0 <;> cases e1 <;> cases a <;> cases b <;> cases c <;> first | rfl | exact absurd (hcomb rfl) (by decide)
def Jem : List PV -> List Ent -> (Res -> Option Res) -> Option Res
 | [.st 113 [.sc (.int .i64 kd), .sc (.int .i64 n), .sc (.string s)]], [], k => k ⟨.sc (.int .i64 (ckC ⟨kd, n, s⟩)), [], []⟩
 | _, _, _ => none
def JqY : Sig := { own := [], run := Jem }
theorem JsO : Jh tau Try.prog 124 JqY := JvJ.of fun xs es k res hr => by
 change Jem xs es k = some res at hr
 unfold Jem at hr
 split at hr
 · rename_i kd n s
   exact (Jog kd n s k).trans hr
 · cases hr
def N88 : Nat := 21
def F88 : Fns := JG 124 JqY (F0)
theorem Jlt : Jy tau Try.prog F88 := (JE).add JsO JvI
def Jc5 : Code := Qj (Try.f88.body.get!) [1, 1, 0, 1, 0, 0]
def X7 : Nm := [(9, .any), (10, .any), (11, .any)]
def Wt : Nm := [(2, .any)]
def JfM : An := (.seq .leaf (.seq (.cond .leaf .leaf) (.seq (.block none (.seq .leaf (.seq .leaf (.seq .leaf (.cond (.seq .leaf .leaf) .leaf))))) .leaf)))
def Joh (r0 : QC) : An := (.seq .leaf (.seq (.seq .leaf (.cond (.seq .leaf .leaf) .leaf)) (.seq (.seq .leaf (.block none (.sum X7 N88 r0))) (.seq .leaf .leaf))))
def V4 (f : Nat) (rc : Bool -> Bool -> List PV -> Int -> Int -> Option Res) (k0 : Int -> Option Res) (k1 : Option Res) (v0 v1 : Bool) (v2 : List PV) (v3 v4 : Int) : Option Res := bif decide (v4 < v3) then bif decide (0 <= v4) && decide (v4 < zi v2.length) && (PV.isSt 113 #[Field.mk "Kind" 3 0 false "" "" 0, Field.mk "N" 3 1 false "" "" 8, Field.mk "S" 9 2 false "" "" 16].size (v2.getD v4.toNat PV.top) && (PV.isInt IntKind.i64 (PV.child 0 (v2.getD v4.toNat PV.top)) && (PV.isInt IntKind.i64 (PV.child (0 + 1) (v2.getD v4.toNat PV.top)) && ((PV.child (0 + 1 + 1) (v2.getD v4.toNat PV.top)).isStr && true)))) && true then bif ckC (CV.mk (PV.child 0 (v2.getD v4.toNat PV.top)).int (PV.child (0 + 1) (v2.getD v4.toNat PV.top)).int (PV.child (0 + 1 + 1) (v2.getD v4.toNat PV.top)).str) != 0 then k0 (ckC (CV.mk (PV.child 0 (v2.getD v4.toNat PV.top)).int (PV.child (0 + 1) (v2.getD v4.toNat PV.top)).int (PV.child (0 + 1 + 1) (v2.getD v4.toNat PV.top)).str)) else rc v0 v1 v2 v3 (IntKind.i64.wrap (v4 + 1)) else none else k1
def Vk (f : Nat) (k0 : Int -> Option Res) (k1 : Option Res) : Nat -> Bool -> Bool -> List PV -> Int -> Int -> Option Res
 | 0, _, _, _, _, _ => none
 | n + 1, v0, v1, v2, v3, v4 => V4 f (Vk f k0 k1 n) k0 k1 v0 v1 v2 v3 v4
theorem Joi (f : Nat) (k : Kont) (n : Nat) (v0 v1 : Bool) (v2 : List PV) (v3 v4 : Int) : Jp tau 0 X7 (fun s k => ev tau F88 0 0 Jc5 (JfM ) s k) (n + 1) (Jc X7 N88 [.ro 113 v0 v1 v2, .sc (.int .i64 v3), .sc (.int .i64 v4)] []) (Jq tau 0 Wt k) = V4 f (fun v0 v1 v2 v3 v4 => Jp tau 0 X7 (fun s k => ev tau F88 0 0 Jc5 (JfM ) s k) n (Jc X7 N88 [.ro 113 v0 v1 v2, .sc (.int .i64 v3), .sc (.int .i64 v4)] []) (Jq tau 0 Wt k)) (fun x0 => k Ex.ret (Jc Wt N88 [.sc (.int .i64 x0)] [])) (k (Ex.exit 0) (Jc Wt N88 [PV.top] [])) v0 v1 v2 v3 v4 := by kernel_rfl
theorem Ji0 (f : Nat) (k : Kont) : ∀ (n : Nat) (v0 v1 : Bool) (v2 : List PV) (v3 v4 : Int), Jp tau 0 X7 (fun s k => ev tau F88 0 0 Jc5 (JfM ) s k) n (Jc X7 N88 [.ro 113 v0 v1 v2, .sc (.int .i64 v3), .sc (.int .i64 v4)] []) (Jq tau 0 Wt k) = Vk f (fun x0 => k Ex.ret (Jc Wt N88 [.sc (.int .i64 x0)] [])) (k (Ex.exit 0) (Jc Wt N88 [PV.top] [])) n v0 v1 v2 v3 v4 | 0, _, _, _, _, _ => rfl | n + 1, v0, v1, v2, v3, v4 => (Joi f k n v0 v1 v2 v3 v4).trans (congrArg (fun r => V4 f r (fun x0 => k Ex.ret (Jc Wt N88 [.sc (.int .i64 x0)] [])) (k (Ex.exit 0) (Jc Wt N88 [PV.top] [])) v0 v1 v2 v3 v4) (by funext v0 v1 v2 v3 v4; exact Ji0 f k n v0 v1 v2 v3 v4))
def JbO (f : Nat) : List PV -> List (Nat × Ent) -> Kont -> Option Res
 | [.ro 113 v0 v1 v2, .sc (.int .i64 v3),
 .sc (.int .i64 v4)], [], k => Vk f (fun x0 => k Ex.ret (Jc Wt N88 [.sc (.int .i64 x0)] [])) (k (Ex.exit 0) (Jc Wt N88 [PV.top] [])) f v0 v1 v2 v3 v4
 | _, _, _ => none
theorem JsP (f : Nat) : Je Jc5 JfM = [] := by kernel_rfl
theorem JsQ (f : Nat) : (Item.l Jc5 X7 N88 (JbO f)).Ok tau Try.prog 0 := JJ Jr Jlt Js (x := JfM) (nm2 := Wt) (Jk _ _ (by rw [JsP f]; intro q hq; cases hq)) fun vs hp k res hr => by
 unfold JbO at hr
 split at hr
 · exact ⟨f, 0, (Ji0 f _ f _ _ _ _ _ ).trans hr⟩
 · cases hr
def g88 (f : Nat) (o_z o_f : Bool) (o : List PV) (k : Res -> Option Res) : Option Res := bif decide (zi o.length > 40) then k (Res.mk (.sc (.int .i64 4)) [] []) else Vk f (fun x0_0 => k (Res.mk (.sc (.int .i64 x0_0)) [] [])) (k (Res.mk (.sc (.int .i64 0)) [] [])) f o_z o_f o (zi o.length) (0)
theorem e88 (f : Nat) (o_z o_f : Bool) (o : List PV) (k : Res -> Option Res) : JM tau F88 Try.f88 (Try.f88.body.get!) (Joh (JbO f)) [.ro] 0 [.ro 113 o_z o_f o] [] k = g88 f o_z o_f o k := by kernel_rfl
theorem JBb (f : Nat) : Je (Try.f88.body.get!) (Joh (JbO f)) = [.l Jc5 X7 N88 (JbO f)] := by kernel_rfl
theorem JBc (f : Nat) : ∀ q ∈ Je (Try.f88.body.get!) (Joh (JbO f)), q.Ok tau Try.prog 0 := by
 rw [JBb f]; simp only [List.forall_mem_cons, List.not_mem_nil, false_implies, implies_true, and_true]; exact JsQ f
theorem JvK : Try.prog.funcs[88]? = some Try.f88 := by kernel_rfl
theorem JvL : Try.f88.body = some (Try.f88.body.get!) := by kernel_rfl
theorem JsR : Enters Try.prog 88 := enters_of JvK (by kernel_rfl) JvL

-- FN op.Check | ref4.Check | law4.Few
def isCp : PV -> Bool
 | .st t [.sc (.int .i64 _), .sc (.int .i64 _), .sc (.string _)] => t == 113
 | _ => false
theorem JbP {p : PV} : isCp p = true ↔ ∃ kd n s, p = .st 113 [.sc (.int .i64 kd), .sc (.int .i64 n), .sc (.string s)] := by
 constructor
 · intro h
   unfold isCp at h
   split at h
   · rename_i t kd n s
     obtain rfl : t = 113 := by simpa using h
     exact ⟨kd, n, s, rfl⟩
   · cases h
 · rintro ⟨kd, n, s, rfl⟩; rfl
def cv (p : PV) : CV := ⟨(p.child 0).int, (p.child 1).int, (p.child 2).str⟩
theorem XP {p : PV} (h : isCp p = true) : (PV.isSt 113 #[Field.mk "Kind" 3 0 false "" "" 0, Field.mk "N" 3 1 false "" "" 8, Field.mk "S" 9 2 false "" "" 16].size p && (PV.isInt IntKind.i64 (PV.child 0 p) && (PV.isInt IntKind.i64 (PV.child (0 + 1) p) && ((PV.child (0 + 1 + 1) p).isStr && true)))) = true := by
 obtain ⟨kd, n, s, rfl⟩ := JbP.1 h
 simp [PV.isSt, PV.child, PV.isInt, PV.isStr]
theorem WW {l : List PV} (h : l.all isCp = true) {i : Nat} (hi : i < l.length) : isCp (l.getD i .top) = true := by
 rw [List.getD_eq_getElem?_getD, List.getElem?_eq_getElem hi]
 exact List.all_eq_true.1 h _ (List.getElem_mem hi)
def ckL : List PV -> Int
 | [] => 0
 | p :: r => bif ckC (cv p) == 0 then ckL r else ckC (cv p)
def Jhr (l : List PV) : Int := bif decide (zi l.length > 40) then 4 else ckL l
def ckO : List PV -> Int := hid Jhr
theorem GZ (l : List PV) : ckO l = Jhr l := by rw [ckO, hid_eq]
def cOk : List PV -> Bool := hid fun l => l.all isCp && Nat.ble l.length 9223372036854775807
theorem Wx {l : List PV} : cOk l = true ↔ l.all isCp = true /\ l.length <= 9223372036854775807 := by
 rw [cOk, hid_eq, Bool.and_eq_true, Nat.ble_eq]
theorem Wb {l : List PV} {i : Nat} (h : i < l.length) : l.drop i = l.getD i .top :: l.drop (i + 1) := by
 rw [List.drop_eq_getElem_cons h]; simp [List.getD_eq_getElem?_getD, h]
theorem JqZ (l : List PV) (h1 : l.all isCp = true) (h2 : l.length <= 40) (f : Nat) (k0 : Int -> Option Res) (k1 : Option Res) (z fl : Bool) : ∀ (d i n : Nat), i + d = l.length -> d < n ->
  Vk f k0 k1 n z fl l (zi l.length) (i : Int) = bif ckL (l.drop i) == 0 then k1 else k0 (ckL (l.drop i))
 | 0, i, n + 1, hi, hn => by
   rw [List.drop_of_length_le (by omega)]
   simp only [Vk, V4]
   exact Jj (by simp [zi]; omega)
 | d + 1, i, n + 1, hi, hn => by
   have g1 : ((i : Int)).toNat = i := by omega
   have w1 : IntKind.i64.wrap ((i : Int) + 1) = ((i + 1 : Nat) : Int) := by rw [wrap_i64 (by omega) (by omega)]; omega
   have hro : (decide (0 <= (i : Int)) && decide ((i : Int) < zi l.length) && (PV.isSt 113 #[Field.mk "Kind" 3 0 false "" "" 0, Field.mk "N" 3 1 false "" "" 8, Field.mk "S" 9 2 false "" "" 16].size (l.getD i PV.top) && (PV.isInt IntKind.i64 (PV.child 0 (l.getD i PV.top)) && (PV.isInt IntKind.i64 (PV.child (0 + 1) (l.getD i PV.top)) && ((PV.child (0 + 1 + 1) (l.getD i PV.top)).isStr && true)))) && true) = true := by
    have hq : (PV.isSt 113 #[Field.mk "Kind" 3 0 false "" "" 0, Field.mk "N" 3 1 false "" "" 8, Field.mk "S" 9 2 false "" "" 16].size (l.getD i PV.top) && (PV.isInt IntKind.i64 (PV.child 0 (l.getD i PV.top)) && (PV.isInt IntKind.i64 (PV.child (0 + 1) (l.getD i PV.top)) && ((PV.child (0 + 1 + 1) (l.getD i PV.top)).isStr && true)))) = true := XP (WW h1 (by omega))
    rw [hq]; simp [zi]; omega
   have hd := Wb (l := l) (i := i) (by omega)
   have hs : CV.mk (PV.child 0 (l.getD i PV.top)).int (PV.child (0 + 1) (l.getD i PV.top)).int (PV.child (0 + 1 + 1) (l.getD i PV.top)).str = cv (l.getD i .top) := rfl
   simp only [Vk, V4, g1, w1, hs]
   refine (Ja (by simp [zi]; omega)).trans ((Ja hro).trans ?_)
   rw [hd]
   cases hc : (ckC (cv (l.getD i .top)) == 0) with
   | true =>
    refine (Jj (by simp only [bne, hc]; rfl)).trans ?_
    rw [JqZ l h1 h2 f k0 k1 z fl d (i + 1) n (by omega) (by omega)]
    simp only [ckL, hc, cond_true]
   | false =>
    refine (Ja (by simp only [bne, hc]; rfl)).trans ?_
    simp only [ckL, hc, cond_false]
def Jhs : List PV -> List Ent -> (Res -> Option Res) -> Option Res
 | [.ro 113 z f l], [], k => bif cOk l then k ⟨.sc (.int .i64 (ckO l)), [], []⟩ else none
 | _, _, _ => none
def Joj : Sig := { own := [], run := Jhs }
theorem JsS (z f : Bool) (l : List PV) (h : cOk l = true) (k : Res -> Option Res) : g88 50 z f l k = k ⟨.sc (.int .i64 (ckO l)), [], []⟩ := by
 obtain ⟨h1, h2⟩ := Wx.1 h
 rw [GZ]
 unfold g88 Jhr
 cases hc : decide (zi l.length > 40) with
 | true => rfl
 | false =>
  have hl : l.length <= 40 := by simp only [zi, decide_eq_false_iff_not] at hc; omega
  rw [cond_false, cond_false]
  refine (JqZ l h1 hl 50 _ _ z f l.length 0 50 (by omega) (by omega)).trans ?_
  rw [List.drop_zero]
  cases h0 : (ckL l == 0) with
  | true =>
   have : ckL l = 0 := by simpa using h0
   rw [this]; rfl
  | false => rfl
theorem Jlu : Jh tau Try.prog 88 Joj := Jh.mk' fun xs es k res hl hr => by
 change Jhs xs es k = some res at hr
 unfold Jhs at hr
 split at hr
 · rename_i z f l
   obtain ⟨hc, hr⟩ := JI hr
   exact Qk Jr Jlt Js JvK JvL (Joh (JbO 50)) [.ro] 0 0 (JBc 50) hl rfl ((e88 50 z f l k).trans ((JsS z f l hc k).trans hr))
 · cases hr




-- FN ref16.domain | ref16.Wave | ref16.number | ref8.User
def inZ (x m : Int) : Bool := decide (x >= 0) && decide (x <= m)
def Jok : List Int -> Bool
 | x :: m :: r => inZ x m && Jok r
 | _ => true
def inA : List Int -> Bool := hid Jok
theorem JsT (l : List Int) : inA l = Jok l := by rw [inA, hid_eq]
theorem Ji1 (a b c d : Int) : inA [a, b, c, d] = (inZ a b && inZ c d) := by rw [JsT]; simp [Jok]
def JvM : Fns := F0
theorem Jol : Jy tau Try.prog JvM := JE
def Ji2 : An := (.seq .leaf (.seq .leaf .leaf))
def JvN (f : Nat) (n most : Int) (k : Res -> Option Res) : Option Res := bif decide (n >= 0) then k (Res.mk (.sc (.bool (decide (n <= most)))) [] []) else k (Res.mk (.sc (.bool false)) [] [])
theorem JBd (f : Nat) (n most : Int) (k : Res -> Option Res) : JM tau JvM Try.f122 (Try.f122.body.get!) Ji2 [.ro] 0 [.sc (.int .i64 n), .sc (.int .i64 most)] [] k = JvN f n most k := by kernel_rfl
theorem JvO (f : Nat) : Je (Try.f122.body.get!) Ji2 = [] := by kernel_rfl
theorem JvP (f : Nat) : ∀ q ∈ Je (Try.f122.body.get!) Ji2, q.Ok tau Try.prog 0 := by
 rw [JvO f]; intro q hq; cases hq
theorem Jq0 : Try.prog.funcs[122]? = some Try.f122 := by kernel_rfl
theorem Jq1 : Try.f122.body = some (Try.f122.body.get!) := by kernel_rfl
theorem Jq2 : Enters Try.prog 122 := enters_of Jq0 (by kernel_rfl) Jq1
def Jht : List PV -> List Ent -> (Res -> Option Res) -> Option Res
 | [.sc (.int .i64 n), .sc (.int .i64 most)], [], k => JvN 0 n most k
 | _, _, _ => none
def JsU : Sig := { own := [], run := Jht }
theorem Jq3 : Jh tau Try.prog 122 JsU := JW Jr Jol Js Jq0 Jq1 Ji2 [.ro] 0 [] Jht (JvP 0) fun xs es k res hr => by
 unfold Jht at hr
 split at hr
 · exact ⟨rfl, 0, (JBd 0 _ _  _).trans hr⟩
 · cases hr
def JvQ : Fns := JG 122 JsU (F0)
theorem Jom : Jy tau Try.prog JvQ := (JE).add Jq3 Jq2
def Ji3 : An := (.seq .leaf (.seq .leaf .leaf))
def JvR (f : Nat) (a_D a_U : Int) (k : Res -> Option Res) : Option Res := bif decide (a_D >= 0) then bif decide (a_D <= 2) then bif decide (a_U >= 0) then k (Res.mk (.sc (.bool (decide (a_U <= 7)))) [] []) else k (Res.mk (.sc (.bool false)) [] []) else k (Res.mk (.sc (.bool false)) [] []) else k (Res.mk (.sc (.bool false)) [] [])
theorem JBe (f : Nat) (a_D a_U : Int) (k : Res -> Option Res) : JM tau JvQ Try.f121 (Try.f121.body.get!) Ji3 [.ro] 0 [.st 42 [.sc (.int .i64 a_D), .sc (.int .i64 a_U)]] [] k = JvR f a_D a_U k := by kernel_rfl
theorem JvS (f : Nat) : Je (Try.f121.body.get!) Ji3 = [] := by kernel_rfl
theorem JvT (f : Nat) : ∀ q ∈ Je (Try.f121.body.get!) Ji3, q.Ok tau Try.prog 0 := by
 rw [JvS f]; intro q hq; cases hq
theorem Jq4 : Try.prog.funcs[121]? = some Try.f121 := by kernel_rfl
theorem Jq5 : Try.f121.body = some (Try.f121.body.get!) := by kernel_rfl
theorem JvU : Enters Try.prog 121 := enters_of Jq4 (by kernel_rfl) Jq5
def Jhu : List PV -> List Ent -> (Res -> Option Res) -> Option Res
 | [.st 42 [.sc (.int .i64 a_D), .sc (.int .i64 a_U)]], [], k => JvR 0 a_D a_U k
 | _, _, _ => none
def JvV : Sig := { own := [], run := Jhu }
theorem JvW : Jh tau Try.prog 121 JvV := JW Jr Jom Js Jq4 Jq5 Ji3 [.ro] 0 [] Jhu (JvT 0) fun xs es k res hr => by
 unfold Jhu at hr
 split at hr
 · exact ⟨rfl, 0, (JBe 0 _ _  _).trans hr⟩
 · cases hr
def F85 : Fns := JG 122 JsU (JG 121 JvV (JG 88 Joj (F0)))
theorem JsV : Jy tau Try.prog F85 := (((JE).add Jlu JsR).add JvW JvU).add Jq3 Jq2
def Jon : An := (.seq .leaf (.seq (.seq .leaf (.cond (.seq .leaf .leaf) .leaf)) (.seq (.seq .leaf (.block none (.seq .leaf (.cond (.seq (.seq .leaf (.seq .leaf (.cond (.seq .leaf .leaf) .leaf))) (.seq .leaf (.cond (.seq .leaf .leaf) .leaf))) (.seq (.seq .leaf (.cond .leaf .leaf)) (.cond (.seq .leaf (.cond (.seq .leaf .leaf) .leaf)) (.seq .leaf .leaf))))))) (.seq .leaf .leaf))))
def g85 (f : Nat) (y0 y1 d_Id y2 : Int) (y3 : List PV) (y4 : Int) (y5 y6 : Bool) (d_Op : List PV) (y7 y8 : Int) (k : Res -> Option Res) : Option Res := bif decide (y0 >= 0) then bif decide (y0 <= 2) then bif decide (y1 >= 0) then bif !decide (y1 <= 7) then k (Res.mk (.sc (.int .i64 1)) [] []) else bif decide (d_Id >= 0) then bif !decide (d_Id <= 1073741824) then k (Res.mk (.sc (.int .i64 1)) [] []) else bif decide (y2 >= 0) then bif !decide (y2 <= 1048576) then k (Res.mk (.sc (.int .i64 1)) [] []) else bif y4 == 1 then bif cOk d_Op then bif ckO d_Op != 0 then k (Res.mk (.sc (.int .i64 (ckO d_Op))) [] []) else bif !(y7 == 0 && (y8 == 0 && true)) then k (Res.mk (.sc (.int .i64 1)) [] []) else k (Res.mk (.sc (.int .i64 0)) [] []) else none else bif y4 == 2 then bif y4 == 2 then bif decide (zi d_Op.length > 0) then k (Res.mk (.sc (.int .i64 1)) [] []) else bif decide (y7 >= 0) then bif decide (y7 <= 2) then bif decide (y8 >= 0) then bif !decide (y8 <= 7) then k (Res.mk (.sc (.int .i64 1)) [] []) else k (Res.mk (.sc (.int .i64 0)) [] []) else k (Res.mk (.sc (.int .i64 1)) [] []) else k (Res.mk (.sc (.int .i64 1)) [] []) else k (Res.mk (.sc (.int .i64 1)) [] []) else k (Res.mk (.sc (.int .i64 3)) [] []) else bif y4 == 3 then bif decide (zi d_Op.length > 0) then k (Res.mk (.sc (.int .i64 1)) [] []) else bif decide (y7 >= 0) then bif decide (y7 <= 2) then bif decide (y8 >= 0) then bif !decide (y8 <= 7) then k (Res.mk (.sc (.int .i64 1)) [] []) else k (Res.mk (.sc (.int .i64 0)) [] []) else k (Res.mk (.sc (.int .i64 1)) [] []) else k (Res.mk (.sc (.int .i64 1)) [] []) else k (Res.mk (.sc (.int .i64 1)) [] []) else k (Res.mk (.sc (.int .i64 3)) [] []) else k (Res.mk (.sc (.int .i64 1)) [] []) else k (Res.mk (.sc (.int .i64 1)) [] []) else k (Res.mk (.sc (.int .i64 1)) [] []) else k (Res.mk (.sc (.int .i64 1)) [] []) else k (Res.mk (.sc (.int .i64 1)) [] [])
theorem e85 (f : Nat) (y0 y1 d_Id y2 : Int) (y3 : List PV) (y4 : Int) (y5 y6 : Bool) (d_Op : List PV) (y7 y8 : Int) (k : Res -> Option Res) : JM tau F85 Try.f85 (Try.f85.body.get!) Jon [.ro] 0 [.st 53 [.st 42 [.sc (.int .i64 y0), .sc (.int .i64 y1)], .sc (.int .i64 d_Id), .sc (.int .i64 y2), .ar 37 y3, .sc (.int .i64 y4), .ro 113 y5 y6 d_Op, .st 42 [.sc (.int .i64 y7), .sc (.int .i64 y8)]]] [] k = g85 f y0 y1 d_Id y2 y3 y4 y5 y6 d_Op y7 y8 k := by kernel_rfl
theorem JBf (f : Nat) : Je (Try.f85.body.get!) Jon = [] := by kernel_rfl
theorem JBg (f : Nat) : ∀ q ∈ Je (Try.f85.body.get!) Jon, q.Ok tau Try.prog 0 := by
 rw [JBf f]; intro q hq; cases hq
theorem JvX : Try.prog.funcs[85]? = some Try.f85 := by kernel_rfl
theorem JvY : Try.f85.body = some (Try.f85.body.get!) := by kernel_rfl
theorem JBh : Enters Try.prog 85 := enters_of JvX (by kernel_rfl) JvY
def Jlv : List PV -> List Ent -> (Res -> Option Res) -> Option Res
 | [.st 53 [.st 42 [.sc (.int .i64 y0), .sc (.int .i64 y1)], .sc (.int .i64 d_Id), .sc (.int .i64 y2), .ar 37 y3, .sc (.int .i64 y4), .ro 113 y5 y6 d_Op, .st 42 [.sc (.int .i64 y7), .sc (.int .i64 y8)]]], [], k => g85 0 y0 y1 d_Id y2 y3 y4 y5 y6 d_Op y7 y8 k
 | _, _, _ => none
def s85 : Sig := { own := [], run := Jlv }
theorem JBi : Jh tau Try.prog 85 s85 := JW Jr JsV Js JvX JvY Jon [.ro] 0 [] Jlv (JBg 0) fun xs es k res hr => by
 unfold Jlv at hr
 split at hr
 · exact ⟨rfl, 0, (e85 0 _ _ _ _ _ _ _ _ _ _ _  _).trans hr⟩
 · cases hr






def JvZ : Fns := F0
theorem Joo : Jy tau Try.prog JvZ := JE
def Ji4 : An := (.seq .leaf (.cond .leaf .leaf))
def Jv0 (f : Nat) (y0 y1 : Bool) (r_b : List PV) (r_e e : Int) (k : Res -> Option Res) : Option Res := bif r_e == 0 then k (Res.mk (.tup []) [.box false 166 (PV.st 166 [.ro 5 y0 y1 r_b, .sc (.int .i64 e)])] []) else k (Res.mk (.tup []) [.box false 166 (PV.st 166 [.ro 5 y0 y1 r_b, .sc (.int .i64 r_e)])] [])
theorem JBj (f : Nat) (y0 y1 : Bool) (r_b : List PV) (r_e e : Int) (k : Res -> Option Res) : JM tau JvZ Try.f107 (Try.f107.body.get!) Ji4 [] 0 [.ptr 0 [], .sc (.int .i64 e)] [.box false 166 (.st 166 [.ro 5 y0 y1 r_b, .sc (.int .i64 r_e)])] k = Jv0 f y0 y1 r_b r_e e k := by kernel_rfl
theorem Jv1 (f : Nat) : Je (Try.f107.body.get!) Ji4 = [] := by kernel_rfl
theorem Jv2 (f : Nat) : ∀ q ∈ Je (Try.f107.body.get!) Ji4, q.Ok tau Try.prog 1 := by
 rw [Jv1 f]; intro q hq; cases hq
theorem Jq6 : Try.prog.funcs[107]? = some Try.f107 := by kernel_rfl
theorem Jq7 : Try.f107.body = some (Try.f107.body.get!) := by kernel_rfl
theorem Jq8 : Enters Try.prog 107 := enters_of Jq6 (by kernel_rfl) Jq7
def Jhv : List PV -> List Ent -> (Res -> Option Res) -> Option Res
 | [.ptr 0 [], .sc (.int .i64 e)], [.box false 166 (.st 166 [.ro 5 y0 y1 r_b, .sc (.int .i64 r_e)])], k => Jv0 0 y0 y1 r_b r_e e k
 | _, _, _ => none
def JsW : Sig := { own := [], run := Jhv }
theorem Jq9 : Jh tau Try.prog 107 JsW := JW Jr Joo Js Jq6 Jq7 Ji4 [] 1 [] Jhv (Jv2 0) fun xs es k res hr => by
 unfold Jhv at hr
 split at hr
 · exact ⟨rfl, 0, (JBj 0 _ _ _ _ _  _).trans hr⟩
 · cases hr
def Jv3 : Fns := JG 107 JsW (F0)
theorem Jop : Jy tau Try.prog Jv3 := (JE).add Jq9 Jq8
def Ji5 : An := (.seq .leaf (.seq (.seq .leaf (.cond .leaf .leaf)) (.seq (.seq .leaf (.cond (.seq .leaf .leaf) .leaf)) (.seq .leaf (.seq .leaf (.seq .leaf .leaf))))))
def Joq (f : Nat) (y0 y1 : Bool) (r_b : List PV) (r_e n : Int) (k : Res -> Option Res) : Option Res := bif decide (n > zi r_b.length) then bif r_e == 0 then k (Res.mk (.ro 5 true true []) [.box false 166 (PV.st 166 [.ro 5 y0 y1 r_b, .sc (.int .i64 8)])] []) else bif r_e != 0 then k (Res.mk (.ro 5 true true []) [.box false 166 (PV.st 166 [.ro 5 y0 y1 r_b, .sc (.int .i64 r_e)])] []) else bif decide (0 <= n) && true && decide (n.toNat <= r_b.length) && true then bif decide (0 <= n) && true && decide (n.toNat <= r_b.length) && decide (r_b.length <= r_b.length) && true then k (Res.mk (.ro 5 y0 (y0 || y1 && false) (List.take n.toNat r_b)) [.box false 166 (PV.st 166 [.ro 5 y0 (y0 || y1 && true) (List.drop n.toNat (List.take r_b.length r_b)), .sc (.int .i64 r_e)])] []) else none else none else bif r_e != 0 then k (Res.mk (.ro 5 true true []) [.box false 166 (PV.st 166 [.ro 5 y0 y1 r_b, .sc (.int .i64 r_e)])] []) else bif decide (0 <= n) && true && decide (n.toNat <= r_b.length) && true then bif decide (0 <= n) && true && decide (n.toNat <= r_b.length) && decide (r_b.length <= r_b.length) && true then k (Res.mk (.ro 5 y0 (y0 || y1 && false) (List.take n.toNat r_b)) [.box false 166 (PV.st 166 [.ro 5 y0 (y0 || y1 && true) (List.drop n.toNat (List.take r_b.length r_b)), .sc (.int .i64 r_e)])] []) else none else none
theorem JBk (f : Nat) (y0 y1 : Bool) (r_b : List PV) (r_e n : Int) (k : Res -> Option Res) : JM tau Jv3 Try.f119 (Try.f119.body.get!) Ji5 [.ro] 0 [.ptr 0 [], .sc (.int .i64 n)] [.box false 166 (.st 166 [.ro 5 y0 y1 r_b, .sc (.int .i64 r_e)])] k = Joq f y0 y1 r_b r_e n k := by kernel_rfl
theorem Jv4 (f : Nat) : Je (Try.f119.body.get!) Ji5 = [] := by kernel_rfl
theorem Jv5 (f : Nat) : ∀ q ∈ Je (Try.f119.body.get!) Ji5, q.Ok tau Try.prog 1 := by
 rw [Jv4 f]; intro q hq; cases hq
theorem Jra : Try.prog.funcs[119]? = some Try.f119 := by kernel_rfl
theorem Jrb : Try.f119.body = some (Try.f119.body.get!) := by kernel_rfl
theorem Jrc : Enters Try.prog 119 := enters_of Jra (by kernel_rfl) Jrb
def Jhw : List PV -> List Ent -> (Res -> Option Res) -> Option Res
 | [.ptr 0 [], .sc (.int .i64 n)], [.box false 166 (.st 166 [.ro 5 y0 y1 r_b, .sc (.int .i64 r_e)])], k => Joq 0 y0 y1 r_b r_e n k
 | _, _, _ => none
def JBl : Sig := { own := [], run := Jhw }
theorem Jv6 : Jh tau Try.prog 119 JBl := JW Jr Jop Js Jra Jrb Ji5 [.ro] 1 [] Jhw (Jv5 0) fun xs es k res hr => by
 unfold Jhw at hr
 split at hr
 · exact ⟨rfl, 0, (JBk 0 _ _ _ _ _  _).trans hr⟩
 · cases hr
structure RS where
 b : List PV
 e : Int
def byB (l : List PV) : Bool := l.all fun p => p.isInt .u8 && (decide (0 <= p.int) && decide (p.int < 256))
def XA : List Int -> Int
 | [] => 0
 | x :: r => x + 256 * XA r
def Y3 (n : Nat) (s : RS) : Bool := s.e == 0 && Nat.ble n s.b.length
def Qd (n : Nat) (s : RS) : RS := bif Y3 n s then ⟨s.b.drop n, 0⟩ else ⟨s.b, bif s.e == 0 then 8 else s.e⟩
def QB (n : Nat) (s : RS) : List PV := bif Y3 n s then s.b.take n else []
def Wq (n : Nat) (s : RS) : Int := IntKind.i64.wrap (XA (Ju (QB n s)))
def okS : Nat -> RS -> Bool := hid Y3
def JfN : Nat -> RS -> List PV := hid QB
theorem JsX (n : Nat) (s : RS) : okS n s = Y3 n s := by rw [okS, hid_eq]
theorem Jen (n : Nat) (s : RS) : JfN n s = QB n s := by rw [JfN, hid_eq]
def Jb : Nat -> RS -> RS := hid Qd
def JB : Nat -> RS -> Int := hid Wq
theorem Xa (n : Nat) (s : RS) : Jb n s = Qd n s := by rw [Jb, hid_eq]
theorem Xm (n : Nat) (s : RS) : JB n s = Wq n s := by rw [JB, hid_eq]
def JfO (s : RS) : RS := Qd (Wq 2 s).toNat (Qd 2 s)
def JfP (s : RS) : ByteArray := ⟨(Jn (QB (Wq 2 s).toNat (Qd 2 s))).toArray⟩
def J2 : RS -> RS := hid JfO
def JU : RS -> ByteArray := hid JfP
theorem Jba (s : RS) : J2 s = JfO s := by rw [J2, hid_eq]
theorem Jbb (s : RS) : JU s = JfP s := by rw [JU, hid_eq]
theorem Wy {l : List PV} : byB l = true ↔ Jl .u8 l = true /\ ∀ x ∈ Ju l, 0 <= x /\ x < 256 := by
 induction l with
 | nil => simp [byB, Jl, Ju]
 | cons p ps ih =>
  have e1 : byB (p :: ps) = ((p.isInt .u8 && (decide (0 <= p.int) && decide (p.int < 256))) && byB ps) := rfl
  have e2 : Ju (p :: ps) = p.int :: Ju ps := rfl
  have e3 : Jl .u8 (p :: ps) = (p.isInt .u8 && Jl .u8 ps) := rfl
  rw [e1, e2, e3]
  simp only [Bool.and_eq_true, decide_eq_true_eq, List.mem_cons, forall_eq_or_imp, ih]
  constructor
  · rintro ⟨⟨h1, h2⟩, h3, h4⟩
    exact ⟨⟨h1, h3⟩, h2, h4⟩
  · rintro ⟨⟨h1, h3⟩, h2, h4⟩
    exact ⟨⟨h1, h2⟩, h3, h4⟩
theorem Jlw {l : List PV} (h : byB l = true) (n : Nat) : byB (l.take n) = true := List.all_eq_true.2 fun p hp => List.all_eq_true.1 h p (List.mem_of_mem_take hp)
theorem Jlx {l : List PV} (h : byB l = true) (n : Nat) : byB (l.drop n) = true := List.all_eq_true.2 fun p hp => List.all_eq_true.1 h p (List.mem_of_mem_drop hp)
theorem Jeo {l : List Int} : byB (pu .u8 l) = true ↔ ∀ x ∈ l, 0 <= x /\ x < 256 := by rw [Wy]; simp
theorem XQ {s : RS} (h : byB s.b = true) (n : Nat) : byB (Qd n s).b = true := by
 unfold Qd; cases Y3 n s
 · exact h
 · exact Jlx h n
theorem Jep {s : RS} (h : byB s.b = true) (n : Nat) : byB (QB n s) = true := by
 unfold QB; cases Y3 n s
 · rfl
 · exact Jlw h n
theorem Vl (n : Nat) (s : RS) : (QB n s).length <= n := by
 unfold QB; cases Y3 n s
 · exact Nat.zero_le _
 · simp; omega
theorem Y4 : ∀ (l : List Int), (∀ x ∈ l, 0 <= x /\ x < 256) -> 0 <= XA l /\ XA l < 256 ^ l.length
 | [], h => by simp [XA]
 | x :: r, h => by
  have h1 := h x List.mem_cons_self
  have h2 := Y4 r fun y hy => h y (List.mem_cons_of_mem _ hy)
  simp only [XA, List.length_cons, Int.pow_succ]
  generalize (256 : Int) ^ r.length = B at *
  omega
theorem X8 {s : RS} (h : byB s.b = true) {n : Nat} (hn : n <= 2) : 0 <= Wq n s /\ Wq n s < 65536 := by
 have h1 := Y4 (Ju (QB n s)) (Wy.1 (Jep h n)).2
 have h2 : (Ju (QB n s)).length <= 2 := by rw [QT]; exact Nat.le_trans (Vl n s) hn
 have h3 : (256 : Int) ^ (Ju (QB n s)).length <= 65536 := by
  generalize (Ju (QB n s)).length = m at *
  match m, h2 with
  | 0, _ => decide
  | 1, _ => decide
  | 2, _ => decide
 unfold Wq
 rw [wrap_i64 (by omega) (by omega)]; omega
structure RT where
 B : List PV
 P : Int
 e : Int
def RT.view (t : RT) : RS := ⟨t.B.drop t.P.toNat, t.e⟩
def okT (t : RT) : Bool := decide (0 <= t.P) && (decide (t.P <= (t.B.length : Int)) && (byB t.B && Nat.ble t.B.length 1000000000))
def X9 (n : Nat) (t : RT) : RT := bif Y3 n t.view then ⟨t.B, ((t.P.toNat + n : Nat) : Int), 0⟩ else ⟨t.B, t.P, bif t.e == 0 then 8 else t.e⟩
def Ji6 : Nat -> RT -> RT := hid X9
def JsY : Nat -> RT -> Int := hid fun n t => Wq n t.view
def JfQ (t : RT) : RT := X9 (Wq 2 t.view).toNat (X9 2 t)
def Jor : RT -> RT := hid JfQ
def Jly : RT -> ByteArray := hid fun t => JfP t.view
theorem JfR (n : Nat) (t : RT) : Ji6 n t = X9 n t := by rw [Ji6, hid_eq]
theorem Jos (n : Nat) (t : RT) : JsY n t = Wq n t.view := by rw [JsY, hid_eq]
theorem Ji7 (t : RT) : Jor t = JfQ t := by rw [Jor, hid_eq]
theorem Jlz (t : RT) : Jly t = JfP t.view := by rw [Jly, hid_eq]
theorem G0 (n : Nat) (t : RT) : (X9 n t).view = Qd n t.view := by
 unfold X9 Qd
 cases Y3 n t.view with
 | true => simp only [cond_true, RT.view, Int.toNat_natCast, List.drop_drop]
 | false => simp only [cond_false, RT.view]
theorem JlA (t : RT) : (JfQ t).view = JfO t.view := by simp only [JfQ, JfO, G0]
@[simp] theorem Jv7 (n : Nat) (t : RT) : JsY n t = JB n t.view := by rw [Jos, Xm]
@[simp] theorem JsZ (n : Nat) (t : RT) : (Ji6 n t).view = Jb n t.view := by rw [JfR, Xa, G0]
@[simp] theorem Jvx (t : RT) : (Jor t).view = J2 t.view := by rw [Ji7, Jba, JlA]
@[simp] theorem Jvy (t : RT) : Jly t = JU t.view := by rw [Jlz, Jbb]
theorem V5 {t : RT} (h : okT t = true) (n : Nat) : okT (X9 n t) = true := by
 have h' := h
 simp only [okT, Bool.and_eq_true, decide_eq_true_eq, Nat.ble_eq] at h ⊢
 unfold X9
 cases hk : Y3 n t.view with
 | true =>
  simp only [cond_true]
  have hn : n <= (t.B.drop t.P.toNat).length := by
   simp only [Y3, RT.view, Bool.and_eq_true, Nat.ble_eq] at hk; exact hk.2
  rw [List.length_drop] at hn
  refine ⟨by omega, by omega, h.2.2⟩
 | false => exact h
theorem Jot {t : RT} (h : okT t = true) : okT (JfQ t) = true := V5 (V5 h _) _
@[simp] theorem Jvz {t : RT} (h : okT t = true) (n : Nat) : okT (Ji6 n t) = true := by rw [JfR]; exact V5 h n
@[simp] theorem Jv8 {t : RT} (h : okT t = true) : okT (Jor t) = true := by rw [Ji7]; exact Jot h
-- FN (*code.Reader).take
abbrev rdP (z f : Bool) (s : RS) : Ent := .box false 166 (.st 166 [.ro 5 z f s.b, .sc (.int .i64 s.e)])
def Jeq : List PV -> List Ent -> (Res -> Option Res) -> Option Res
 | [.ptr 0 [], .sc (.int .i64 n)], [.box false 166 (.st 166 [.ro 5 z f b, .sc (.int .i64 e)])], k =>
  bif (!z || f) && decide (0 <= n) then k ⟨.ro 5 (!okS n.toNat ⟨b, e⟩ || z) (!okS n.toNat ⟨b, e⟩ || z) (JfN n.toNat ⟨b, e⟩), [rdP z f (Jb n.toNat ⟨b, e⟩)], []⟩ else none
 | _, _, _ => none
def JlB : Sig := { own := [], run := Jeq }
theorem Jou (z f : Bool) (b : List PV) (e n : Int) (hz : (!z || f) = true) (hn : 0 <= n) (k : Res -> Option Res) :
   Joq 0 z f b e n k = k ⟨.ro 5 (!okS n.toNat ⟨b, e⟩ || z) (!okS n.toNat ⟨b, e⟩ || z) (JfN n.toNat ⟨b, e⟩), [rdP z f (Jb n.toNat ⟨b, e⟩)], []⟩ := by
 rw [JsX, Jen, Xa]
 have hzf : (z || f) = f := by cases z <;> cases f <;> simp_all
 have hz2 : (z || f && false) = z := by cases z <;> cases f <;> rfl
 unfold Joq
 by_cases c1 : n > zi b.length
 · have hk : Nat.ble n.toNat b.length = false := by
     cases h : Nat.ble n.toNat b.length with
     | false => rfl
     | true => rw [Nat.ble_eq] at h; simp only [zi] at c1; omega
   rw [Ja (by simpa using c1)]
   by_cases c2 : e = 0
   · subst c2
     simp only [beq_self_eq_true, cond_true]
     simp [Y3, QB, Qd, hk]
   · have hb : (e == 0) = false := by simpa using c2
     have hb2 : (e != 0) = true := by simpa using c2
     simp only [hb, hb2, cond_true, cond_false]
     simp [Y3, QB, Qd, hb]
 · rw [Jj (by simpa using c1)]
   by_cases c2 : e = 0
   · subst c2
     have hk : Nat.ble n.toNat b.length = true := by rw [Nat.ble_eq]; simp only [zi] at c1; omega
     have hk' : n.toNat <= b.length := by rw [Nat.ble_eq] at hk; exact hk
     have h00 : ((0 : Int) != 0) = false := by decide
     simp only [h00, cond_false]
     rw [Ja (by simp; omega), Ja (by simp; omega)]
     simp [Y3, QB, Qd, hk, hzf, hz2]
   · have hb : (e == 0) = false := by simpa using c2
     have hb2 : (e != 0) = true := by simpa using c2
     simp only [hb2, cond_true]
     simp [Y3, QB, Qd, hb]
theorem JlC : Jh tau Try.prog 119 JlB := Jv6.of fun xs es k res hr => by
 change Jeq xs es k = some res at hr
 unfold Jeq at hr
 split at hr
 · obtain ⟨hc, hr⟩ := JI hr
   simp only [Bool.and_eq_true, decide_eq_true_eq] at hc
   exact (Jou _ _ _ _ _ hc.1 hc.2 _).trans hr
 · cases hr
def JcD : Nat := 27
def JlD : Fns := JG 119 JlB (F0)
theorem Ji8 : Jy tau Try.prog JlD := (JE).add JlC Jrc
def G1 : Code := Qj (Try.f118.body.get!) [1, 1, 0, 1, 0, 0]
def Wz : Nm := [(5, .any), (10, .any), (11, .any), (12, .any)]
def Xn : Nm := [(5, .any)]
def JbQ : An := (.seq .leaf (.seq (.cond .leaf .leaf) (.seq (.block none (.seq .leaf .leaf)) .leaf)))
def Ji9 (r0 : QC) : An := (.seq .leaf (.seq .leaf (.seq (.seq .leaf (.block none (.sum Wz JcD r0))) (.seq .leaf .leaf))))
def Y5 (f : Nat) (rc : Int -> Bool -> Bool -> List PV -> Int -> Int -> Bool -> Bool -> List PV -> Int -> Option Res) (k0 : Int -> Bool -> Bool -> List PV -> Int -> Option Res) (v0 : Int) (v1 v2 : Bool) (v3 : List PV) (v4 v5 : Int) (v6 v7 : Bool) (v8 : List PV) (v9 : Int) : Option Res := bif decide (v5 < v4) then bif decide (0 <= v5) && decide (v5 < zi v3.length) && PV.isInt IntKind.u8 (v3.getD v5.toNat PV.top) && true then bif decide (0 <= IntKind.i64.wrap (8 * v5)) && true then rc (JF BinOp.or IntKind.u64 v0 (Xz IntKind.u64 (IntKind.u64.wrap (v3.getD v5.toNat PV.top).int) (IntKind.i64.wrap (8 * v5)))) v1 v2 v3 v4 (IntKind.i64.wrap (v5 + 1)) v6 v7 v8 v9 else none else none else k0 v0 v6 v7 v8 v9
def Ya (f : Nat) (k0 : Int -> Bool -> Bool -> List PV -> Int -> Option Res) : Nat -> Int -> Bool -> Bool -> List PV -> Int -> Int -> Bool -> Bool -> List PV -> Int -> Option Res
 | 0, _, _, _, _, _, _, _, _, _, _ => none
 | n + 1, v0, v1, v2, v3, v4, v5, v6, v7, v8, v9 => Y5 f (Ya f k0 n) k0 v0 v1 v2 v3 v4 v5 v6 v7 v8 v9
theorem JlE (f : Nat) (k : Kont) (n : Nat) (v0 : Int) (v1 v2 : Bool) (v3 : List PV) (v4 v5 : Int) (v6 v7 : Bool) (v8 : List PV) (v9 : Int) : Jp tau 1 Wz (fun s k => ev tau JlD 1 0 G1 (JbQ ) s k) (n + 1) (Jc Wz JcD [.sc (.int .u64 v0), .ro 5 v1 v2 v3, .sc (.int .i64 v4), .sc (.int .i64 v5)] [(0, .box false 166 (PV.st 166 [.ro 5 v6 v7 v8, .sc (.int .i64 v9)]))]) (Jq tau 1 Xn k) = Y5 f (fun v0 v1 v2 v3 v4 v5 v6 v7 v8 v9 => Jp tau 1 Wz (fun s k => ev tau JlD 1 0 G1 (JbQ ) s k) n (Jc Wz JcD [.sc (.int .u64 v0), .ro 5 v1 v2 v3, .sc (.int .i64 v4), .sc (.int .i64 v5)] [(0, .box false 166 (PV.st 166 [.ro 5 v6 v7 v8, .sc (.int .i64 v9)]))]) (Jq tau 1 Xn k)) (fun x0 x1 x2 x3 x4 => k (Ex.exit 0) (Jc Xn JcD [.sc (.int .u64 x0)] [(0, .box false 166 (PV.st 166 [.ro 5 x1 x2 x3, .sc (.int .i64 x4)]))])) v0 v1 v2 v3 v4 v5 v6 v7 v8 v9 := by kernel_rfl
theorem JfS (f : Nat) (k : Kont) : ∀ (n : Nat) (v0 : Int) (v1 v2 : Bool) (v3 : List PV) (v4 v5 : Int) (v6 v7 : Bool) (v8 : List PV) (v9 : Int), Jp tau 1 Wz (fun s k => ev tau JlD 1 0 G1 (JbQ ) s k) n (Jc Wz JcD [.sc (.int .u64 v0), .ro 5 v1 v2 v3, .sc (.int .i64 v4), .sc (.int .i64 v5)] [(0, .box false 166 (PV.st 166 [.ro 5 v6 v7 v8, .sc (.int .i64 v9)]))]) (Jq tau 1 Xn k) = Ya f (fun x0 x1 x2 x3 x4 => k (Ex.exit 0) (Jc Xn JcD [.sc (.int .u64 x0)] [(0, .box false 166 (PV.st 166 [.ro 5 x1 x2 x3, .sc (.int .i64 x4)]))])) n v0 v1 v2 v3 v4 v5 v6 v7 v8 v9 | 0, _, _, _, _, _, _, _, _, _, _ => rfl | n + 1, v0, v1, v2, v3, v4, v5, v6, v7, v8, v9 => (JlE f k n v0 v1 v2 v3 v4 v5 v6 v7 v8 v9).trans (congrArg (fun r => Y5 f r (fun x0 x1 x2 x3 x4 => k (Ex.exit 0) (Jc Xn JcD [.sc (.int .u64 x0)] [(0, .box false 166 (PV.st 166 [.ro 5 x1 x2 x3, .sc (.int .i64 x4)]))])) v0 v1 v2 v3 v4 v5 v6 v7 v8 v9) (by funext v0 v1 v2 v3 v4 v5 v6 v7 v8 v9; exact JfS f k n v0 v1 v2 v3 v4 v5 v6 v7 v8 v9))
def Vm (f : Nat) : List PV -> List (Nat × Ent) -> Kont -> Option Res
 | [.sc (.int .u64 v0), .ro 5 v1 v2 v3, .sc (.int .i64 v4),
 PV.sc
  (Value.int IntKind.i64
   v5)], [(0,
  Ent.box false 166
   (PV.st 166
    [.ro 5 v6 v7 v8,
     PV.sc
      (Value.int IntKind.i64
       v9)]))], k => Ya f (fun x0 x1 x2 x3 x4 => k (Ex.exit
 0) (Jc Xn JcD [.sc (.int .u64 x0)] [(0, .box false 166 (PV.st 166 [.ro 5 x1 x2 x3, .sc (.int .i64 x4)]))])) f v0 v1 v2 v3 v4 v5 v6 v7 v8 v9
 | _, _, _ => none
theorem Jov (f : Nat) : Je G1 JbQ = [] := by kernel_rfl
theorem Jow (f : Nat) : (Item.l G1 Wz JcD (Vm f)).Ok tau Try.prog 1 := JJ Jr Ji8 Js (x := JbQ) (nm2 := Xn) (Jk _ _ (by rw [Jov f]; intro q hq; cases hq)) fun vs hp k res hr => by
 unfold Vm at hr
 split at hr
 · exact ⟨f, 0, (JfS f _ f _ _ _ _ _ _ _ _ _ _ ).trans hr⟩
 · cases hr
def Js0 (f : Nat) (y0 y1 : Bool) (r_b : List PV) (r_e n : Int) (k : Res -> Option Res) : Option Res := bif (!y0 || y1) && decide (0 <= n) then Ya f (fun x0_0 x1_0 x2_0 x3_0 QI => k (Res.mk (.sc (.int .i64 (IntKind.i64.wrap x0_0))) [.box false 166 (PV.st 166 [.ro 5 x1_0 x2_0 x3_0, .sc (.int .i64 QI)])] [])) f (0) (!okS n.toNat (RS.mk r_b r_e) || y0) (!okS n.toNat (RS.mk r_b r_e) || y0) (JfN n.toNat (RS.mk r_b r_e)) (zi (JfN n.toNat (RS.mk r_b r_e)).length) (0) y0 y1 ((Jb n.toNat (RS.mk r_b r_e)).b) ((Jb n.toNat (RS.mk r_b r_e)).e) else none
theorem JBm (f : Nat) (y0 y1 : Bool) (r_b : List PV) (r_e n : Int) (k : Res -> Option Res) : JM tau JlD Try.f118 (Try.f118.body.get!) (Ji9 (Vm f)) [.ro] 0 [.ptr 0 [], .sc (.int .i64 n)] [.box false 166 (.st 166 [.ro 5 y0 y1 r_b, .sc (.int .i64 r_e)])] k = Js0 f y0 y1 r_b r_e n k := by kernel_rfl
theorem Jv9 (f : Nat) : Je (Try.f118.body.get!) (Ji9 (Vm f)) = [.l G1 Wz JcD (Vm f)] := by kernel_rfl
theorem Jwa (f : Nat) : ∀ q ∈ Je (Try.f118.body.get!) (Ji9 (Vm f)), q.Ok tau Try.prog 1 := by
 rw [Jv9 f]; simp only [List.forall_mem_cons, List.not_mem_nil, false_implies, implies_true, and_true]; exact Jow f
theorem Jrd : Try.prog.funcs[118]? = some Try.f118 := by kernel_rfl
theorem Jre : Try.f118.body = some (Try.f118.body.get!) := by kernel_rfl
theorem JlF : Enters Try.prog 118 := enters_of Jrd (by kernel_rfl) Jre
-- FN (*code.Reader).number
theorem Jc6 : ∀ (l : List Int) (x : Int), XA (l ++ [x]) = XA l + x * 256 ^ l.length
 | [], x => by simp [XA]
 | y :: r, x => by
  simp only [List.cons_append, XA, Jc6 r x, List.length_cons, Int.pow_succ]
  have : x * (256 ^ r.length * 256) = 256 * (x * 256 ^ r.length) := by rw [Int.mul_comm 256, Int.mul_assoc]
  omega
theorem JlG (i : Nat) : (256 : Int) ^ i = 2 ^ (8 * i) := by rw [Int.pow_mul]; rfl
theorem JlH {v y : Int} {j : Nat} (hj : j <= 64) (hv0 : 0 <= v) (hv : v < 2 ^ j) (hy0 : 0 <= y) (hy : y * 2 ^ j < 2 ^ 64) : JF .or .u64 v (y * 2 ^ j) = v + y * 2 ^ j := by
 obtain ⟨a, rfl⟩ := Int.eq_ofNat_of_zero_le hv0
 obtain ⟨b, rfl⟩ := Int.eq_ofNat_of_zero_le hy0
 have e1 : ((b : Int)) * 2 ^ j = ((b * 2 ^ j : Nat) : Int) := by rw [Int.natCast_mul, Int.natCast_pow]; rfl
 have e2 : ((2 : Int)) ^ j = ((2 ^ j : Nat) : Int) := by rw [Int.natCast_pow]; rfl
 have e3 : ((2 : Int)) ^ 64 = ((2 ^ 64 : Nat) : Int) := by rw [Int.natCast_pow]; rfl
 rw [e2] at hv
 rw [e1, e3] at hy
 have ha : a < 2 ^ j := Int.ofNat_lt.1 hv
 have hb : b * 2 ^ j < 2 ^ 64 := Int.ofNat_lt.1 hy
 rw [e1]
 have hor : a ||| b * 2 ^ j = a + b * 2 ^ j := by
  have h := Nat.shiftLeft_add_eq_or_of_lt ha b
  rw [Nat.shiftLeft_eq] at h
  rw [Nat.or_comm, ← h, Nat.add_comm]
 have ha2 : a < 2 ^ 64 := Nat.lt_of_lt_of_le ha (Nat.pow_le_pow_right (by omega) hj)
 have hsum : a + b * 2 ^ j < 2 ^ 64 := by rw [← hor]; exact Nat.or_lt_two_pow ha2 hb
 generalize hc : b * 2 ^ j = c at *
 have ht : (BitVec.ofInt 64 (a : Int) ||| BitVec.ofInt 64 (c : Int)).toNat = a + c := by
  rw [BitVec.toNat_or, BitVec.ofInt_natCast, BitVec.ofInt_natCast, BitVec.toNat_ofNat, BitVec.toNat_ofNat, Nat.mod_eq_of_lt ha2, Nat.mod_eq_of_lt hb, hor]
 show IntKind.u64.wrap ((BitVec.ofInt 64 (a : Int) ||| BitVec.ofInt 64 (c : Int)).toNat : Int) = _
 rw [ht, QU]
 have h64 : (2 : Nat) ^ 64 = 18446744073709551616 := by decide
 rw [h64] at hsum
 omega
theorem JlI {x : Int} (h0 : 0 <= x) (h1 : x < 256) {i : Nat} (hi : i < 8) : Xz .u64 (IntKind.u64.wrap x) (8 * (i : Int)) = x * 2 ^ (8 * i) := by
 rw [QU, Int.emod_eq_of_lt h0 (by omega), Xz, QU]
 have : min (8 * (i : Int)).toNat IntKind.u64.bits = 8 * i := by
  have : IntKind.u64.bits = 64 := rfl
  rw [this]; omega
 rw [this]
 have hp : (2 : Int) ^ (8 * i) <= 2 ^ 56 := by
  have h : (2 ^ (8 * i) : Nat) <= 2 ^ 56 := Nat.pow_le_pow_right (by omega) (by omega)
  have e2 : ((2 : Int)) ^ (8 * i) = ((2 ^ (8 * i) : Nat) : Int) := by rw [Int.natCast_pow]; rfl
  have e3 : ((2 : Int)) ^ 56 = ((2 ^ 56 : Nat) : Int) := by rw [Int.natCast_pow]; rfl
  rw [e2, e3]; exact Int.ofNat_le.2 h
 have hp0 : (0 : Int) <= 2 ^ (8 * i) := Int.le_of_lt (by
   have e2 : ((2 : Int)) ^ (8 * i) = ((2 ^ (8 * i) : Nat) : Int) := by rw [Int.natCast_pow]; rfl
   rw [e2]; exact Int.ofNat_lt.2 (Nat.two_pow_pos _))
 have h56 : (2 : Int) ^ 56 = 72057594037927936 := by decide
 rw [h56] at hp
 have hm : x * 2 ^ (8 * i) <= 255 * 2 ^ (8 * i) := Int.mul_le_mul_of_nonneg_right (by omega) hp0
 have hm0 : 0 <= x * 2 ^ (8 * i) := Int.mul_nonneg h0 hp0
 exact Int.emod_eq_of_lt hm0 (by omega)
theorem JlJ (L : List Int) (hL : ∀ x ∈ L, 0 <= x /\ x < 256) (h8 : L.length <= 8) (f : Nat) (k0 : Int -> Bool -> Bool -> List PV -> Int -> Option Res) (a b c d : Bool) (R : List PV) (e : Int) : ∀ (dd i n : Nat), i + dd = L.length -> dd < n ->
  Ya f k0 n (XA (L.take i)) a b (pu .u8 L) (L.length : Int) (i : Int) c d R e = k0 (XA L) c d R e
 | 0, i, n + 1, h, hn => by
   obtain rfl : i = L.length := by omega
   simp only [Ya, Y5, List.take_length]
   exact Jj (by simp)
 | dd + 1, i, n + 1, h, hn => by
   have g1 : ((i : Int)).toNat = i := by omega
   have h1 : IntKind.i64.wrap ((i : Int) + 1) = ((i + 1 : Nat) : Int) := by rw [wrap_i64 (by omega) (by omega)]; omega
   have h2 : IntKind.i64.wrap (8 * (i : Int)) = 8 * (i : Int) := wrap_i64 (by omega) (by omega)
   have hi : i < L.length := by omega
   have hx := hL (L.getD i 0) (by rw [List.getD_eq_getElem?_getD, List.getElem?_eq_getElem hi]; exact List.getElem_mem hi)
   simp only [Ya, Y5, g1, h1, h2]
   rw [J4 hi, Qt hi]
   refine (Ja (by simp; omega)).trans ((Ja (by simp [zi]; omega)).trans ((Ja (by simp; omega)).trans ?_))
   have ht : L.take (i + 1) = L.take i ++ [L.getD i 0] := by
    rw [List.take_add_one, List.getD_eq_getElem?_getD, List.getElem?_eq_getElem hi]; rfl
   have hb := Y4 (L.take i) fun x hx => hL x (List.mem_of_mem_take hx)
   have hlen : (L.take i).length = i := by rw [List.length_take]; omega
   rw [hlen, JlG] at hb
   have hs := JlI hx.1 hx.2 (i := i) (by omega)
   have hlt : L.getD i 0 * 2 ^ (8 * i) < 2 ^ 64 := by
    have hp : (2 : Int) ^ (8 * i) <= 2 ^ 56 := by
     have h : (2 ^ (8 * i) : Nat) <= 2 ^ 56 := Nat.pow_le_pow_right (by omega) (by omega)
     have e2 : ((2 : Int)) ^ (8 * i) = ((2 ^ (8 * i) : Nat) : Int) := by rw [Int.natCast_pow]; rfl
     have e3 : ((2 : Int)) ^ 56 = ((2 ^ 56 : Nat) : Int) := by rw [Int.natCast_pow]; rfl
     rw [e2, e3]; exact Int.ofNat_le.2 h
    have hp0 : (0 : Int) <= 2 ^ (8 * i) := by omega
    have h56 : (2 : Int) ^ 56 = 72057594037927936 := by decide
    have h64 : (2 : Int) ^ 64 = 18446744073709551616 := by decide
    rw [h56] at hp; rw [h64]
    have hm : L.getD i 0 * 2 ^ (8 * i) <= 255 * 2 ^ (8 * i) := Int.mul_le_mul_of_nonneg_right (by omega) hp0
    omega
   rw [hs, JlH (by omega) hb.1 hb.2 hx.1 hlt]
   have hn1 : XA (L.take i) + L.getD i 0 * 2 ^ (8 * i) = XA (L.take (i + 1)) := by
    rw [ht, Jc6, hlen, JlG]
   rw [hn1]
   exact JlJ L hL h8 f k0 a b c d R e dd (i + 1) n (by omega) (by omega)
def Jer : List PV -> List Ent -> (Res -> Option Res) -> Option Res
 | [.ptr 0 [], .sc (.int .i64 n)], [.box false 166 (.st 166 [.ro 5 z f b, .sc (.int .i64 e)])], k =>
  bif (!z || f) && (decide (0 <= n) && decide (n <= 8)) && byB b then k ⟨.sc (.int .i64 (JB n.toNat ⟨b, e⟩)), [rdP z f (Jb n.toNat ⟨b, e⟩)], []⟩ else none
 | _, _, _ => none
def Jja : Sig := { own := [], run := Jer }
theorem Jox (z f : Bool) (b : List PV) (e n : Int) (hz : (!z || f) = true) (hn : 0 <= n) (hn8 : n <= 8) (hb : byB b = true) (k : Res -> Option Res) :
  Js0 20 z f b e n k = k ⟨.sc (.int .i64 (JB n.toNat ⟨b, e⟩)), [rdP z f (Jb n.toNat ⟨b, e⟩)], []⟩ := by
 unfold Js0
 rw [Ja (by rw [hz]; simpa using hn), Xm, Jen]
 have ho : byB (QB n.toNat ⟨b, e⟩) = true := Jep hb _
 have hoi := Wy.1 ho
 have hl : (Ju (QB n.toNat ⟨b, e⟩)).length <= 8 := by rw [QT]; exact Nat.le_trans (Vl _ _) (by omega)
 have hL := JlJ (Ju (QB n.toNat ⟨b, e⟩)) hoi.2 hl 20 (fun x0_0 x1_0 x2_0 x3_0 QI => k (Res.mk (.sc (.int .i64 (IntKind.i64.wrap x0_0))) [.box false 166 (.st 166 [.ro 5 x1_0 x2_0 x3_0, .sc (.int .i64 QI)])] [])) (!okS n.toNat ⟨b, e⟩ || z) (!okS n.toNat ⟨b, e⟩ || z) z f (Jb n.toNat ⟨b, e⟩).b (Jb n.toNat ⟨b, e⟩).e (Ju (QB n.toNat ⟨b, e⟩)).length 0 20 (by omega) (by omega)
 rw [← Ql hoi.1, QT] at hL
 simp only [List.take_zero, XA] at hL
 exact hL
theorem Jhx : Jh tau Try.prog 118 Jja := Jh.mk' fun xs es k res hl hr => by
 change Jer xs es k = some res at hr
 unfold Jer at hr
 split at hr
 · rename_i n z f b e
   obtain ⟨hc, hr⟩ := JI hr
   simp only [Bool.and_eq_true, decide_eq_true_eq] at hc
   exact Qk Jr Ji8 Js Jrd Jre (Ji9 (Vm 20)) [.ro] 1 0 (Jwa 20) hl rfl ((JBm 20 z f b e n k).trans ((Jox z f b e n hc.1.1 hc.1.2.1 hc.1.2.2 hc.2 k).trans hr))
 · cases hr
def F81 : Fns := JG 118 Jja (F0)
theorem Js1 : Jy tau Try.prog F81 := (JE).add Jhx JlF
def Joy : An := (.seq .leaf (.seq .leaf .leaf))
def g81 (f : Nat) (y0 y1 : Bool) (r_b : List PV) (r_e : Int) (k : Res -> Option Res) : Option Res := bif (!y0 || y1) && true && byB r_b then k (Res.mk (.sc (.int .i64 (JB 8 (RS.mk r_b r_e)))) [.box false 166 (PV.st 166 [.ro 5 y0 y1 (Jb 8 (RS.mk r_b r_e)).b, .sc (.int .i64 (Jb 8 (RS.mk r_b r_e)).e)])] []) else none
theorem e81 (f : Nat) (y0 y1 : Bool) (r_b : List PV) (r_e : Int) (k : Res -> Option Res) : JM tau F81 Try.f81 (Try.f81.body.get!) Joy [.ro] 0 [.ptr 0 []] [.box false 166 (.st 166 [.ro 5 y0 y1 r_b, .sc (.int .i64 r_e)])] k = g81 f y0 y1 r_b r_e k := by kernel_rfl
theorem JBn (f : Nat) : Je (Try.f81.body.get!) Joy = [] := by kernel_rfl
theorem JBo (f : Nat) : ∀ q ∈ Je (Try.f81.body.get!) Joy, q.Ok tau Try.prog 1 := by
 rw [JBn f]; intro q hq; cases hq
theorem Jwb : Try.prog.funcs[81]? = some Try.f81 := by kernel_rfl
theorem Jwc : Try.f81.body = some (Try.f81.body.get!) := by kernel_rfl
theorem Jwd : Enters Try.prog 81 := enters_of Jwb (by kernel_rfl) Jwc
def JlK : List PV -> List Ent -> (Res -> Option Res) -> Option Res
 | [.ptr 0 []], [.box false 166 (.st 166 [.ro 5 y0 y1 r_b, .sc (.int .i64 r_e)])], k => g81 0 y0 y1 r_b r_e k
 | _, _, _ => none
def s81 : Sig := { own := [], run := JlK }
theorem Jwe : Jh tau Try.prog 81 s81 := JW Jr Js1 Js Jwb Jwc Joy [.ro] 1 [] JlK (JBo 0) fun xs es k res hr => by
 unfold JlK at hr
 split at hr
 · exact ⟨rfl, 0, (e81 0 _ _ _ _  _).trans hr⟩
 · cases hr
def F82 : Fns := JG 118 Jja (F0)
theorem Js2 : Jy tau Try.prog F82 := (JE).add Jhx JlF
def Joz : An := (.seq .leaf (.seq .leaf .leaf))
def g82 (f : Nat) (y0 y1 : Bool) (r_b : List PV) (r_e : Int) (k : Res -> Option Res) : Option Res := bif (!y0 || y1) && true && byB r_b then k (Res.mk (.sc (.int .i64 (JB 1 (RS.mk r_b r_e)))) [.box false 166 (PV.st 166 [.ro 5 y0 y1 (Jb 1 (RS.mk r_b r_e)).b, .sc (.int .i64 (Jb 1 (RS.mk r_b r_e)).e)])] []) else none
theorem e82 (f : Nat) (y0 y1 : Bool) (r_b : List PV) (r_e : Int) (k : Res -> Option Res) : JM tau F82 Try.f82 (Try.f82.body.get!) Joz [.ro] 0 [.ptr 0 []] [.box false 166 (.st 166 [.ro 5 y0 y1 r_b, .sc (.int .i64 r_e)])] k = g82 f y0 y1 r_b r_e k := by kernel_rfl
theorem JBp (f : Nat) : Je (Try.f82.body.get!) Joz = [] := by kernel_rfl
theorem JBq (f : Nat) : ∀ q ∈ Je (Try.f82.body.get!) Joz, q.Ok tau Try.prog 1 := by
 rw [JBp f]; intro q hq; cases hq
theorem Jwf : Try.prog.funcs[82]? = some Try.f82 := by kernel_rfl
theorem Jwg : Try.f82.body = some (Try.f82.body.get!) := by kernel_rfl
theorem Jwh : Enters Try.prog 82 := enters_of Jwf (by kernel_rfl) Jwg
def JlL : List PV -> List Ent -> (Res -> Option Res) -> Option Res
 | [.ptr 0 []], [.box false 166 (.st 166 [.ro 5 y0 y1 r_b, .sc (.int .i64 r_e)])], k => g82 0 y0 y1 r_b r_e k
 | _, _, _ => none
def s82 : Sig := { own := [], run := JlL }
theorem Jwi : Jh tau Try.prog 82 s82 := JW Jr Js2 Js Jwf Jwg Joz [.ro] 1 [] JlL (JBq 0) fun xs es k res hr => by
 unfold JlL at hr
 split at hr
 · exact ⟨rfl, 0, (e82 0 _ _ _ _  _).trans hr⟩
 · cases hr
def F83 : Fns := JG 119 JlB (JG 118 Jja (F0))
theorem Js3 : Jy tau Try.prog F83 := ((JE).add Jhx JlF).add JlC Jrc
def JoA : An := (.seq .leaf (.seq .leaf (.seq .leaf .leaf)))
def g83 (f : Nat) (y0 y1 : Bool) (r_b : List PV) (r_e : Int) (k : Res -> Option Res) : Option Res := bif (!y0 || y1) && true && byB r_b then bif (!y0 || y1) && decide (0 <= JB 2 (RS.mk r_b r_e)) then bif Jl IntKind.u8 (JfN (JB 2 (RS.mk r_b r_e)).toNat (Jb 2 (RS.mk r_b r_e))) && true then k (Res.mk (.sc (.string (ByteArray.mk (Array.mk (Jn (!okS (JB 2 (RS.mk r_b r_e)).toNat (RS.mk (Jb 2 (RS.mk r_b r_e)).b (Jb 2 (RS.mk r_b r_e)).e) || y0, JfN (JB 2 (RS.mk r_b r_e)).toNat (Jb 2 (RS.mk r_b r_e))).snd))))) [.box false 166 (PV.st 166 [.ro 5 y0 y1 (Jb (JB 2 (RS.mk r_b r_e)).toNat (Jb 2 (RS.mk r_b r_e))).b, .sc (.int .i64 (Jb (JB 2 (RS.mk r_b r_e)).toNat (Jb 2 (RS.mk r_b r_e))).e)])] []) else none else none else none
theorem e83 (f : Nat) (y0 y1 : Bool) (r_b : List PV) (r_e : Int) (k : Res -> Option Res) : JM tau F83 Try.f83 (Try.f83.body.get!) JoA [.ro] 0 [.ptr 0 []] [.box false 166 (.st 166 [.ro 5 y0 y1 r_b, .sc (.int .i64 r_e)])] k = g83 f y0 y1 r_b r_e k := by kernel_rfl
theorem JBr (f : Nat) : Je (Try.f83.body.get!) JoA = [] := by kernel_rfl
theorem JBs (f : Nat) : ∀ q ∈ Je (Try.f83.body.get!) JoA, q.Ok tau Try.prog 1 := by
 rw [JBr f]; intro q hq; cases hq
theorem Jwj : Try.prog.funcs[83]? = some Try.f83 := by kernel_rfl
theorem Jwk : Try.f83.body = some (Try.f83.body.get!) := by kernel_rfl
theorem Jwl : Enters Try.prog 83 := enters_of Jwj (by kernel_rfl) Jwk
def JlM : List PV -> List Ent -> (Res -> Option Res) -> Option Res
 | [.ptr 0 []], [.box false 166 (.st 166 [.ro 5 y0 y1 r_b, .sc (.int .i64 r_e)])], k => g83 0 y0 y1 r_b r_e k
 | _, _, _ => none
def s83 : Sig := { own := [], run := JlM }
theorem JBt : Jh tau Try.prog 83 s83 := JW Jr Js3 Js Jwj Jwk JoA [.ro] 1 [] JlM (JBs 0) fun xs es k res hr => by
 unfold JlM at hr
 split at hr
 · exact ⟨rfl, 0, (e83 0 _ _ _ _  _).trans hr⟩
 · cases hr
-- FN (*code.Reader).Text
def Jhy : List PV -> List Ent -> (Res -> Option Res) -> Option Res
 | [.ptr 0 []], [.box false 166 (.st 166 [.ro 5 z f b, .sc (.int .i64 e)])], k =>
  bif (!z || f) && byB b then k ⟨.sc (.string (JU ⟨b, e⟩)), [rdP z f (J2 ⟨b, e⟩)], []⟩ else none
 | _, _, _ => none
def Js4 : Sig := { own := [], run := Jhy }
theorem Jrf : Jh tau Try.prog 83 Js4 := JBt.of fun xs es k res hr => by
 change Jhy xs es k = some res at hr
 unfold Jhy at hr
 split at hr
 · rename_i z f b e
   obtain ⟨hc, hr⟩ := JI hr
   simp only [Bool.and_eq_true] at hc
   show g83 0 z f b e k = some res
   have hn := (X8 (s := ⟨b, e⟩) hc.2 (n := 2) (by omega)).1
   have ho := (Wy.1 (Jep (s := Qd 2 ⟨b, e⟩) (XQ (s := ⟨b, e⟩) hc.2 2) (Wq 2 ⟨b, e⟩).toNat)).1
   unfold g83
   simp only [Xm, Xa, Jen]
   rw [Ja (by rw [hc.1, hc.2]; rfl), Ja (by rw [hc.1]; simpa using hn), Ja (by rw [ho]; rfl)]
   rw [Jbb, Jba] at hr
   exact hr
 · cases hr


def F76 : Fns := F0
theorem Js5 : Jy tau Try.prog F76 := JE
def JoB : An := (.seq .leaf (.seq (.seq .leaf (.cond (.seq .leaf .leaf) .leaf)) (.seq .leaf .leaf)))
def g76 (f : Nat) (s_z s_f : Bool) (s : List PV) (k : Res -> Option Res) : Option Res := bif s_z then k (Res.mk (.ro 5 true true []) [] []) else bif Jf (0 + s.length) 1 && true then k (Res.mk (.ro 5 false false (List.take (0 + s.length) s)) [] []) else none
theorem e76 (f : Nat) (s_z s_f : Bool) (s : List PV) (k : Res -> Option Res) : JM tau F76 Try.f76 (Try.f76.body.get!) JoB [.ro] 0 [.ro 5 s_z s_f s] [] k = g76 f s_z s_f s k := by kernel_rfl
theorem JBu (f : Nat) : Je (Try.f76.body.get!) JoB = [] := by kernel_rfl
theorem JBv (f : Nat) : ∀ q ∈ Je (Try.f76.body.get!) JoB, q.Ok tau Try.prog 0 := by
 rw [JBu f]; intro q hq; cases hq
theorem Jwm : Try.prog.funcs[76]? = some Try.f76 := by kernel_rfl
theorem Jwn : Try.f76.body = some (Try.f76.body.get!) := by kernel_rfl
theorem JBw : Enters Try.prog 76 := enters_of Jwm (by kernel_rfl) Jwn
def JlN : List PV -> List Ent -> (Res -> Option Res) -> Option Res
 | [.ro 5 s_z s_f s], [], k => g76 0 s_z s_f s k
 | _, _, _ => none
def s76 : Sig := { own := [], run := JlN }
theorem JBx : Jh tau Try.prog 76 s76 := JW Jr Js5 Js Jwm Jwn JoB [.ro] 0 [] JlN (JBv 0) fun xs es k res hr => by
 unfold JlN at hr
 split at hr
 · exact ⟨rfl, 0, (e76 0 _ _ _  _).trans hr⟩
 · cases hr
-- FN slices.Clone[[]byte,byte]
def slB (z : Bool) (l : List PV) : Bool := (!z || l.isEmpty) && Nat.ble l.length 1000000000
theorem WA {z : Bool} {l : List PV} : slB z l = true ↔ (z = true -> l = []) /\ l.length <= 1000000000 := by
 simp only [slB, Bool.and_eq_true, Nat.ble_eq, Bool.or_eq_true, Bool.not_eq_true', List.isEmpty_iff]
 cases z <;> simp
def Jhz : List PV -> List Ent -> (Res -> Option Res) -> Option Res
 | [.ro 5 z f l], [], k => bif slB z l then k ⟨.ro 5 z z l, [], []⟩ else none
 | _, _, _ => none
def Jwo : Sig := { own := [], run := Jhz }
theorem Jwp : Jh tau Try.prog 76 Jwo := JBx.of fun xs es k res hr => by
 change Jhz xs es k = some res at hr
 unfold Jhz at hr
 split at hr
 · rename_i z f l
   obtain ⟨hc, hr⟩ := JI hr
   obtain ⟨h1, h2⟩ := WA.1 hc
   show g76 0 z f l k = some res
   unfold g76
   cases z with
   | true => obtain rfl := h1 rfl; exact hr
   | false =>
    rw [cond_false, Ja (by simp [Jf]; omega)]
    simp only [Nat.zero_add, List.nil_append, List.take_length]
    exact hr
 · cases hr



-- FN (*ref1.Reader).take



-- FN (*ref1.Reader).Int | (*ref1.Reader).Byte | (*ref1.Reader).Text

def Jwq : Fns := F0
theorem JoC : Jy tau Try.prog Jwq := JE
def Jjb : An := (.seq .leaf (.seq .leaf (.seq .leaf .leaf)))
def Jwr (f : Nat) (x k1 : Int) (k : Res -> Option Res) : Option Res := bif decide (0 <= IntKind.u64.wrap (32 - JF BinOp.and IntKind.u64 (IntKind.u64.wrap k1) 31)) && true then k (Res.mk (.sc (.int .u32 (JF BinOp.or IntKind.u32 (Xz IntKind.u32 x (JF BinOp.and IntKind.u64 (IntKind.u64.wrap k1) 31)) (JA IntKind.u32 x (IntKind.u64.wrap (32 - JF BinOp.and IntKind.u64 (IntKind.u64.wrap k1) 31)))))) [] []) else none
theorem JBy (f : Nat) (x k1 : Int) (k : Res -> Option Res) : JM tau Jwq Try.f134 (Try.f134.body.get!) Jjb [.ro] 0 [.sc (.int .u32 x), .sc (.int .i64 k1)] [] k = Jwr f x k1 k := by kernel_rfl
theorem Jws (f : Nat) : Je (Try.f134.body.get!) Jjb = [] := by kernel_rfl
theorem Jwt (f : Nat) : ∀ q ∈ Je (Try.f134.body.get!) Jjb, q.Ok tau Try.prog 0 := by
 rw [Jws f]; intro q hq; cases hq
theorem Jrg : Try.prog.funcs[134]? = some Try.f134 := by kernel_rfl
theorem Jrh : Try.f134.body = some (Try.f134.body.get!) := by kernel_rfl
theorem Jwu : Enters Try.prog 134 := enters_of Jrg (by kernel_rfl) Jrh
def JhA : List PV -> List Ent -> (Res -> Option Res) -> Option Res
 | [.sc (.int .u32 x), .sc (.int .i64 k1)], [], k => Jwr 0 x k1 k
 | _, _, _ => none
def Jwv : Sig := { own := [], run := JhA }
theorem Jww : Jh tau Try.prog 134 Jwv := JW Jr JoC Js Jrg Jrh Jjb [.ro] 0 [] JhA (Jwt 0) fun xs es k res hr => by
 unfold JhA at hr
 split at hr
 · exact ⟨rfl, 0, (JBy 0 _ _  _).trans hr⟩
 · cases hr
def Jwx : Fns := JG 134 Jwv (F0)
theorem JoD : Jy tau Try.prog Jwx := (JE).add Jww Jwu
def Jjc : An := (.seq .leaf (.seq .leaf .leaf))
def JoE (f : Nat) (x n : Int) (k : Res -> Option Res) : Option Res := bif decide (0 <= IntKind.u64.wrap (32 - JF BinOp.and IntKind.u64 (IntKind.u64.wrap (IntKind.i64.wrap (0 - n))) 31)) && true then k (Res.mk (.sc (.int .u32 (JF BinOp.or IntKind.u32 (Xz IntKind.u32 x (JF BinOp.and IntKind.u64 (IntKind.u64.wrap (IntKind.i64.wrap (0 - n))) 31)) (JA IntKind.u32 x (IntKind.u64.wrap (32 - JF BinOp.and IntKind.u64 (IntKind.u64.wrap (IntKind.i64.wrap (0 - n))) 31)))))) [] []) else none
theorem JBz (f : Nat) (x n : Int) (k : Res -> Option Res) : JM tau Jwx Try.f117 (Try.f117.body.get!) Jjc [.ro] 0 [.sc (.int .u32 x), .sc (.int .i64 n)] [] k = JoE f x n k := by kernel_rfl
theorem Jwy (f : Nat) : Je (Try.f117.body.get!) Jjc = [] := by kernel_rfl
theorem Jwz (f : Nat) : ∀ q ∈ Je (Try.f117.body.get!) Jjc, q.Ok tau Try.prog 0 := by
 rw [Jwy f]; intro q hq; cases hq
theorem Jri : Try.prog.funcs[117]? = some Try.f117 := by kernel_rfl
theorem Jrj : Try.f117.body = some (Try.f117.body.get!) := by kernel_rfl
theorem Jrk : Enters Try.prog 117 := enters_of Jri (by kernel_rfl) Jrj
def JhB : List PV -> List Ent -> (Res -> Option Res) -> Option Res
 | [.sc (.int .u32 x), .sc (.int .i64 n)], [], k => JoE 0 x n k
 | _, _, _ => none
def JBA : Sig := { own := [], run := JhB }
theorem JwA : Jh tau Try.prog 117 JBA := JW Jr JoD Js Jri Jrj Jjc [.ro] 0 [] JhB (Jwz 0) fun xs es k res hr => by
 unfold JhB at hr
 split at hr
 · exact ⟨rfl, 0, (JBz 0 _ _  _).trans hr⟩
 · cases hr
def F96 : Fns := F0
theorem Js6 : Jy tau Try.prog F96 := JE
def JoF : An := (.seq .leaf (.seq .leaf .leaf))
def g96 (f : Nat) (x n : Int) (k : Res -> Option Res) : Option Res := bif decide (0 <= n) && true then bif decide (0 <= IntKind.u64.wrap (32 - n)) && true then k (Res.mk (.sc (.int .u32 (JF BinOp.or IntKind.u32 (JA IntKind.u32 x n) (Xz IntKind.u32 x (IntKind.u64.wrap (32 - n)))))) [] []) else none else none
theorem e96 (f : Nat) (x n : Int) (k : Res -> Option Res) : JM tau F96 Try.f96 (Try.f96.body.get!) JoF [.ro] 0 [.sc (.int .u32 x), .sc (.int .u64 n)] [] k = g96 f x n k := by kernel_rfl
theorem JBB (f : Nat) : Je (Try.f96.body.get!) JoF = [] := by kernel_rfl
theorem JBC (f : Nat) : ∀ q ∈ Je (Try.f96.body.get!) JoF, q.Ok tau Try.prog 0 := by
 rw [JBB f]; intro q hq; cases hq
theorem JwB : Try.prog.funcs[96]? = some Try.f96 := by kernel_rfl
theorem JwC : Try.f96.body = some (Try.f96.body.get!) := by kernel_rfl
theorem JBD : Enters Try.prog 96 := enters_of JwB (by kernel_rfl) JwC
def JlO : List PV -> List Ent -> (Res -> Option Res) -> Option Res
 | [.sc (.int .u32 x), .sc (.int .u64 n)], [], k => g96 0 x n k
 | _, _, _ => none
def s96 : Sig := { own := [], run := JlO }
theorem JBE : Jh tau Try.prog 96 s96 := JW Jr Js6 Js JwB JwC JoF [.ro] 0 [] JlO (JBC 0) fun xs es k res hr => by
 unfold JlO at hr
 split at hr
 · exact ⟨rfl, 0, (e96 0 _ _  _).trans hr⟩
 · cases hr
-- FN sha.right | ref2.rot
def rr (x n : Int) : Int := JF .or .u32 (Xz .u32 x (32 - n)) (JA .u32 x n)
theorem Jes (x y : Int) : JF .or .u32 x y = JF .or .u32 y x := by
 simp only [JF]; rw [BitVec.or_comm]
theorem JlP {P : Int -> Prop} (h : ∀ m : Nat, m < 31 -> P ((m : Int) + 1)) (n : Int) (h1 : 1 <= n) (h2 : n <= 31) : P n := by
 have := h (n - 1).toNat (by omega)
 have he : (((n - 1).toNat : Nat) : Int) + 1 = n := by omega
 rwa [he] at this
def Jet : List PV -> List Ent -> (Res -> Option Res) -> Option Res
 | [.sc (.int .u32 x), .sc (.int .i64 n)], [], k => bif decide (1 <= n) && decide (n <= 31) then k ⟨.sc (.int .u32 (rr x n)), [], []⟩ else none
 | _, _, _ => none
def JlQ : Sig := { own := [], run := Jet }
theorem JhC (x : Int) (k : Res -> Option Res) (n : Int) (h1 : 1 <= n) (h2 : n <= 31) : JoE 0 x n k = k ⟨.sc (.int .u32 (rr x n)), [], []⟩ := by
 refine JlP (P := fun n => JoE 0 x n k = k ⟨.sc (.int .u32 (rr x n)), [], []⟩) ?_ n h1 h2
 intro m hm
 iterate 31 (rcases m with _ | m; · kernel_rfl)
 omega
theorem JlR : Jh tau Try.prog 117 JlQ := JwA.of fun xs es k res hr => by
 change Jet xs es k = some res at hr
 unfold Jet at hr
 split at hr
 · obtain ⟨hc, hr⟩ := JI hr
   simp only [Bool.and_eq_true, decide_eq_true_eq] at hc
   exact (JhC _ _ _ hc.1 hc.2).trans hr
 · cases hr
def JhD : List PV -> List Ent -> (Res -> Option Res) -> Option Res
 | [.sc (.int .u32 x), .sc (.int .u64 n)], [], k => bif decide (1 <= n) && decide (n <= 31) then k ⟨.sc (.int .u32 (rr x n)), [], []⟩ else none
 | _, _, _ => none
def JwD : Sig := { own := [], run := JhD }
theorem JkC (x : Int) (k : Res -> Option Res) (n : Int) (h1 : 1 <= n) (h2 : n <= 31) : g96 0 x n k = k ⟨.sc (.int .u32 (rr x n)), [], []⟩ := by
 have hc : ∀ n, rr x n = JF .or .u32 (JA .u32 x n) (Xz .u32 x (32 - n)) := fun n => Jes _ _
 rw [hc]
 refine JlP (P := fun n => g96 0 x n k = k ⟨.sc (.int .u32 (JF .or .u32 (JA .u32 x n) (Xz .u32 x (32 - n)))), [], []⟩) ?_ n h1 h2
 intro m hm
 iterate 31 (rcases m with _ | m; · kernel_rfl)
 omega
theorem JwE : Jh tau Try.prog 96 JwD := JBE.of fun xs es k res hr => by
 change JhD xs es k = some res at hr
 unfold JhD at hr
 split at hr
 · obtain ⟨hc, hr⟩ := JI hr
   simp only [Bool.and_eq_true, decide_eq_true_eq] at hc
   exact (JkC _ _ _ hc.1 hc.2).trans hr
 · cases hr
def XR : Nat := 89
def JfT : Fns := JG 117 JlQ (F0)
theorem Jeu : Jy tau Try.prog JfT := (JE).add JlR Jrk
def G2 : Code := Qj (Try.f115.body.get!) [1, 1, 0, 1, 0, 0]
def WB : Nm := [(0, .any), (2, .any), (3, .any), (8, .any)]
def Xo : Nm := [(2, .any), (3, .any)]
def JbR : An := (.seq .leaf (.seq (.cond .leaf .leaf) (.seq (.block none (.seq .leaf .leaf)) .leaf)))
def G3 : Code := Qj (Try.f115.body.get!) [1, 1, 1, 0, 1, 0, 0]
def WC : Nm := [(2, .any), (3, .any), (5, .any)]
def Xp : Nm := [(2, .any), (3, .any)]
def JbS : An := (.seq (.seq .leaf (.cond .leaf .leaf)) (.seq (.block none (.seq .leaf .leaf)) .leaf))
def JlS (r0 : QC) (r1 : QC) : An := (.seq .leaf (.seq .leaf (.seq (.seq .leaf (.block none (.sum WB XR r0))) (.seq (.seq .leaf (.block none (.sum WC XR r1))) (.seq .leaf .leaf)))))
def Y6 (f : Nat) (rc : Bool -> Bool -> List PV -> Int -> List PV -> List PV -> Option Res) (k0 : List PV -> List PV -> Option Res) (v0 v1 : Bool) (v2 : List PV) (v3 : Int) (v4 v5 : List PV) : Option Res := bif decide (v3 < 16) then bif decide (0 <= IntKind.i64.wrap (4 * v3)) && decide (IntKind.i64.wrap (4 * v3) < zi v2.length) && PV.isInt IntKind.u8 (v2.getD (IntKind.i64.wrap (4 * v3)).toNat PV.top) && true then bif decide (0 <= IntKind.i64.wrap (IntKind.i64.wrap (4 * v3) + 1)) && decide (IntKind.i64.wrap (IntKind.i64.wrap (4 * v3) + 1) < zi v2.length) && PV.isInt IntKind.u8 (v2.getD (IntKind.i64.wrap (IntKind.i64.wrap (4 * v3) + 1)).toNat PV.top) && true then bif decide (0 <= IntKind.i64.wrap (IntKind.i64.wrap (4 * v3) + 2)) && decide (IntKind.i64.wrap (IntKind.i64.wrap (4 * v3) + 2) < zi v2.length) && PV.isInt IntKind.u8 (v2.getD (IntKind.i64.wrap (IntKind.i64.wrap (4 * v3) + 2)).toNat PV.top) && true then bif decide (0 <= IntKind.i64.wrap (IntKind.i64.wrap (4 * v3) + 3)) && decide (IntKind.i64.wrap (IntKind.i64.wrap (4 * v3) + 3) < zi v2.length) && PV.isInt IntKind.u8 (v2.getD (IntKind.i64.wrap (IntKind.i64.wrap (4 * v3) + 3)).toNat PV.top) && true then bif decide (0 <= v3) && decide (v3 < zi 64) && true then rc v0 v1 v2 (IntKind.i64.wrap (v3 + 1)) v4 (v5.set v3.toNat (.sc (.int .u32 (JF BinOp.or IntKind.u32 (JF BinOp.or IntKind.u32 (JF BinOp.or IntKind.u32 (Xz IntKind.u32 (IntKind.u32.wrap (v2.getD (IntKind.i64.wrap (4 * v3)).toNat PV.top).int) 24) (Xz IntKind.u32 (IntKind.u32.wrap (v2.getD (IntKind.i64.wrap (IntKind.i64.wrap (4 * v3) + 1)).toNat PV.top).int) 16)) (Xz IntKind.u32 (IntKind.u32.wrap (v2.getD (IntKind.i64.wrap (IntKind.i64.wrap (4 * v3) + 2)).toNat PV.top).int) 8)) (IntKind.u32.wrap (v2.getD (IntKind.i64.wrap (IntKind.i64.wrap (4 * v3) + 3)).toNat PV.top).int))))) else none else none else none else none else none else k0 v4 v5
def Xq (f : Nat) (k0 : List PV -> List PV -> Option Res) : Nat -> Bool -> Bool -> List PV -> Int -> List PV -> List PV -> Option Res
 | 0, _, _, _, _, _, _ => none
 | n + 1, v0, v1, v2, v3, v4, v5 => Y6 f (Xq f k0 n) k0 v0 v1 v2 v3 v4 v5
theorem JlT (f : Nat) (k : Kont) (n : Nat) (v0 v1 : Bool) (v2 : List PV) (v3 : Int) (v4 v5 : List PV) : Jp tau 0 WB (fun s k => ev tau JfT 0 0 G2 (JbR ) s k) (n + 1) (Jc WB XR [.ro 5 v0 v1 v2, .ptr 1440 [], .ptr 1441 [], .sc (.int .i64 v3)] [(1440, .box false 159 (PV.ar 159 v4)), (1441, .box false 159 (PV.ar 159 v5))]) (Jq tau 0 Xo k) = Y6 f (fun v0 v1 v2 v3 v4 v5 => Jp tau 0 WB (fun s k => ev tau JfT 0 0 G2 (JbR ) s k) n (Jc WB XR [.ro 5 v0 v1 v2, .ptr 1440 [], .ptr 1441 [], .sc (.int .i64 v3)] [(1440, .box false 159 (PV.ar 159 v4)), (1441, .box false 159 (PV.ar 159 v5))]) (Jq tau 0 Xo k)) (fun x0 x1 => k (Ex.exit 0) (Jc Xo XR [.ptr 1440 [], .ptr 1441 []] [(1440, .box false 159 (PV.ar 159 x0)), (1441, .box false 159 (PV.ar 159 x1))])) v0 v1 v2 v3 v4 v5 := by kernel_rfl
theorem JfU (f : Nat) (k : Kont) : ∀ (n : Nat) (v0 v1 : Bool) (v2 : List PV) (v3 : Int) (v4 v5 : List PV), Jp tau 0 WB (fun s k => ev tau JfT 0 0 G2 (JbR ) s k) n (Jc WB XR [.ro 5 v0 v1 v2, .ptr 1440 [], .ptr 1441 [], .sc (.int .i64 v3)] [(1440, .box false 159 (PV.ar 159 v4)), (1441, .box false 159 (PV.ar 159 v5))]) (Jq tau 0 Xo k) = Xq f (fun x0 x1 => k (Ex.exit 0) (Jc Xo XR [.ptr 1440 [], .ptr 1441 []] [(1440, .box false 159 (PV.ar 159 x0)), (1441, .box false 159 (PV.ar 159 x1))])) n v0 v1 v2 v3 v4 v5 | 0, _, _, _, _, _, _ => rfl | n + 1, v0, v1, v2, v3, v4, v5 => (JlT f k n v0 v1 v2 v3 v4 v5).trans (congrArg (fun r => Y6 f r (fun x0 x1 => k (Ex.exit 0) (Jc Xo XR [.ptr 1440 [], .ptr 1441 []] [(1440, .box false 159 (PV.ar 159 x0)), (1441, .box false 159 (PV.ar 159 x1))])) v0 v1 v2 v3 v4 v5) (by funext v0 v1 v2 v3 v4 v5; exact JfU f k n v0 v1 v2 v3 v4 v5))
def G4 (f : Nat) : List PV -> List (Nat × Ent) -> Kont -> Option Res
 | [.ro 5 v0 v1 v2, .ptr 1440 [], .ptr 1441 [],
 PV.sc
  (Value.int IntKind.i64
   v3)], [(1440, .box false 159 (PV.ar 159 v4)),
 (1441,
  Ent.box false 159
   (PV.ar 159
    v5))], k => Xq f (fun x0 x1 => k (Ex.exit
 0) (Jc Xo XR [.ptr 1440 [], .ptr 1441 []] [(1440, .box false 159 (PV.ar 159 x0)), (1441, .box false 159 (PV.ar 159 x1))])) f v0 v1 v2 v3 v4 v5
 | _, _, _ => none
theorem JoG (f : Nat) : Je G2 JbR = [] := by kernel_rfl
theorem JoH (f : Nat) : (Item.l G2 WB XR (G4 f)).Ok tau Try.prog 0 := JJ Jr Jeu Js (x := JbR) (nm2 := Xo) (Jk _ _ (by rw [JoG f]; intro q hq; cases hq)) fun vs hp k res hr => by
 unfold G4 at hr
 split at hr
 · exact ⟨f, 0, (JfU f _ f _ _ _ _ _ _ ).trans hr⟩
 · cases hr
def Y7 (f : Nat) (rc : Int -> List PV -> List PV -> Option Res) (k0 : List PV -> List PV -> Option Res) (v0 : Int) (v1 v2 : List PV) : Option Res := bif decide (v0 < 64) then bif decide (0 <= IntKind.i64.wrap (v0 - 15)) && decide (IntKind.i64.wrap (v0 - 15) < zi 64) && true then bif PV.isInt IntKind.u32 (Jm (PV.ar 159 v2) [(IntKind.i64.wrap (v0 - 15)).toNat]) && true then bif decide (0 <= IntKind.i64.wrap (v0 - 2)) && decide (IntKind.i64.wrap (v0 - 2) < zi 64) && true then bif PV.isInt IntKind.u32 (Jm (PV.ar 159 v2) [(IntKind.i64.wrap (v0 - 2)).toNat]) && true then bif decide (0 <= IntKind.i64.wrap (v0 - 16)) && decide (IntKind.i64.wrap (v0 - 16) < zi 64) && true then bif PV.isInt IntKind.u32 (Jm (PV.ar 159 v2) [(IntKind.i64.wrap (v0 - 16)).toNat]) && true then bif decide (0 <= IntKind.i64.wrap (v0 - 7)) && decide (IntKind.i64.wrap (v0 - 7) < zi 64) && true then bif PV.isInt IntKind.u32 (Jm (PV.ar 159 v2) [(IntKind.i64.wrap (v0 - 7)).toNat]) && true then bif decide (0 <= v0) && decide (v0 < zi 64) && true then rc (IntKind.i64.wrap (v0 + 1)) v1 (v2.set v0.toNat (.sc (.int .u32 (IntKind.u32.wrap (IntKind.u32.wrap (IntKind.u32.wrap ((Jm (PV.ar 159 v2) [(IntKind.i64.wrap (v0 - 16)).toNat]).int + JF BinOp.xor IntKind.u32 (JF BinOp.xor IntKind.u32 (rr (Jm (PV.ar 159 v2) [(IntKind.i64.wrap (v0 - 15)).toNat]).int 7) (rr (Jm (PV.ar 159 v2) [(IntKind.i64.wrap (v0 - 15)).toNat]).int 18)) (JA IntKind.u32 (Jm (PV.ar 159 v2) [(IntKind.i64.wrap (v0 - 15)).toNat]).int 3)) + (Jm (PV.ar 159 v2) [(IntKind.i64.wrap (v0 - 7)).toNat]).int) + JF BinOp.xor IntKind.u32 (JF BinOp.xor IntKind.u32 (rr (Jm (PV.ar 159 v2) [(IntKind.i64.wrap (v0 - 2)).toNat]).int 17) (rr (Jm (PV.ar 159 v2) [(IntKind.i64.wrap (v0 - 2)).toNat]).int 19)) (JA IntKind.u32 (Jm (PV.ar 159 v2) [(IntKind.i64.wrap (v0 - 2)).toNat]).int 10)))))) else none else none else none else none else none else none else none else none else none else k0 v1 v2
def Xr (f : Nat) (k0 : List PV -> List PV -> Option Res) : Nat -> Int -> List PV -> List PV -> Option Res
 | 0, _, _, _ => none
 | n + 1, v0, v1, v2 => Y7 f (Xr f k0 n) k0 v0 v1 v2
theorem JlU (f : Nat) (k : Kont) (n : Nat) (v0 : Int) (v1 v2 : List PV) : Jp tau 0 WC (fun s k => ev tau JfT 0 0 G3 (JbS ) s k) (n + 1) (Jc WC XR [.ptr 1440 [], .ptr 1441 [], .sc (.int .i64 v0)] [(1440, .box false 159 (PV.ar 159 v1)), (1441, .box false 159 (PV.ar 159 v2))]) (Jq tau 0 Xp k) = Y7 f (fun v0 v1 v2 => Jp tau 0 WC (fun s k => ev tau JfT 0 0 G3 (JbS ) s k) n (Jc WC XR [.ptr 1440 [], .ptr 1441 [], .sc (.int .i64 v0)] [(1440, .box false 159 (PV.ar 159 v1)), (1441, .box false 159 (PV.ar 159 v2))]) (Jq tau 0 Xp k)) (fun x0 x1 => k (Ex.exit 2) (Jc Xp XR [.ptr 1440 [], .ptr 1441 []] [(1440, .box false 159 (PV.ar 159 x0)), (1441, .box false 159 (PV.ar 159 x1))])) v0 v1 v2 := by kernel_rfl
theorem JfV (f : Nat) (k : Kont) : ∀ (n : Nat) (v0 : Int) (v1 v2 : List PV), Jp tau 0 WC (fun s k => ev tau JfT 0 0 G3 (JbS ) s k) n (Jc WC XR [.ptr 1440 [], .ptr 1441 [], .sc (.int .i64 v0)] [(1440, .box false 159 (PV.ar 159 v1)), (1441, .box false 159 (PV.ar 159 v2))]) (Jq tau 0 Xp k) = Xr f (fun x0 x1 => k (Ex.exit 2) (Jc Xp XR [.ptr 1440 [], .ptr 1441 []] [(1440, .box false 159 (PV.ar 159 x0)), (1441, .box false 159 (PV.ar 159 x1))])) n v0 v1 v2 | 0, _, _, _ => rfl | n + 1, v0, v1, v2 => (JlU f k n v0 v1 v2).trans (congrArg (fun r => Y7 f r (fun x0 x1 => k (Ex.exit 2) (Jc Xp XR [.ptr 1440 [], .ptr 1441 []] [(1440, .box false 159 (PV.ar 159 x0)), (1441, .box false 159 (PV.ar 159 x1))])) v0 v1 v2) (by funext v0 v1 v2; exact JfV f k n v0 v1 v2))
def G5 (f : Nat) : List PV -> List (Nat × Ent) -> Kont -> Option Res
 | [.ptr 1440 [], .ptr 1441 [],
 PV.sc
  (Value.int IntKind.i64
   v0)], [(1440, .box false 159 (PV.ar 159 v1)),
 (1441,
  Ent.box false 159
   (PV.ar 159
    v2))], k => Xr f (fun x0 x1 => k (Ex.exit
 2) (Jc Xp XR [.ptr 1440 [], .ptr 1441 []] [(1440, .box false 159 (PV.ar 159 x0)), (1441, .box false 159 (PV.ar 159 x1))])) f v0 v1 v2
 | _, _, _ => none
theorem JoI (f : Nat) : Je G3 JbS = [] := by kernel_rfl
theorem JoJ (f : Nat) : (Item.l G3 WC XR (G5 f)).Ok tau Try.prog 0 := JJ Jr Jeu Js (x := JbS) (nm2 := Xp) (Jk _ _ (by rw [JoI f]; intro q hq; cases hq)) fun vs hp k res hr => by
 unfold G5 at hr
 split at hr
 · exact ⟨f, 0, (JfV f _ f _ _ _ ).trans hr⟩
 · cases hr
def JwF (f : Nat) (b_z b_f : Bool) (b : List PV) (k : Res -> Option Res) : Option Res := Xq f (fun x0_0 x1_0 => Xr f (fun x0_1 x1_1 => k (Res.mk (.ar 159 x1_1) [] [])) f (16) x0_0 x1_0) f b_z b_f b (0) ([.sc (.int .u32 0), .sc (.int .u32 0), .sc (.int .u32 0), .sc (.int .u32 0), .sc (.int .u32 0), .sc (.int .u32 0), .sc (.int .u32 0), .sc (.int .u32 0), .sc (.int .u32 0), .sc (.int .u32 0), .sc (.int .u32 0), .sc (.int .u32 0), .sc (.int .u32 0), .sc (.int .u32 0), .sc (.int .u32 0), .sc (.int .u32 0), .sc (.int .u32 0), .sc (.int .u32 0), .sc (.int .u32 0), .sc (.int .u32 0), .sc (.int .u32 0), .sc (.int .u32 0), .sc (.int .u32 0), .sc (.int .u32 0), .sc (.int .u32 0), .sc (.int .u32 0), .sc (.int .u32 0), .sc (.int .u32 0), .sc (.int .u32 0), .sc (.int .u32 0), .sc (.int .u32 0), .sc (.int .u32 0), .sc (.int .u32 0), .sc (.int .u32 0), .sc (.int .u32 0), .sc (.int .u32 0), .sc (.int .u32 0), .sc (.int .u32 0), .sc (.int .u32 0), .sc (.int .u32 0), .sc (.int .u32 0), .sc (.int .u32 0), .sc (.int .u32 0), .sc (.int .u32 0), .sc (.int .u32 0), .sc (.int .u32 0), .sc (.int .u32 0), .sc (.int .u32 0), .sc (.int .u32 0), .sc (.int .u32 0), .sc (.int .u32 0), .sc (.int .u32 0), .sc (.int .u32 0), .sc (.int .u32 0), .sc (.int .u32 0), .sc (.int .u32 0), .sc (.int .u32 0), .sc (.int .u32 0), .sc (.int .u32 0), .sc (.int .u32 0), .sc (.int .u32 0), .sc (.int .u32 0), .sc (.int .u32 0), .sc (.int .u32 0)]) ([.sc (.int .u32 0), .sc (.int .u32 0), .sc (.int .u32 0), .sc (.int .u32 0), .sc (.int .u32 0), .sc (.int .u32 0), .sc (.int .u32 0), .sc (.int .u32 0), .sc (.int .u32 0), .sc (.int .u32 0), .sc (.int .u32 0), .sc (.int .u32 0), .sc (.int .u32 0), .sc (.int .u32 0), .sc (.int .u32 0), .sc (.int .u32 0), .sc (.int .u32 0), .sc (.int .u32 0), .sc (.int .u32 0), .sc (.int .u32 0), .sc (.int .u32 0), .sc (.int .u32 0), .sc (.int .u32 0), .sc (.int .u32 0), .sc (.int .u32 0), .sc (.int .u32 0), .sc (.int .u32 0), .sc (.int .u32 0), .sc (.int .u32 0), .sc (.int .u32 0), .sc (.int .u32 0), .sc (.int .u32 0), .sc (.int .u32 0), .sc (.int .u32 0), .sc (.int .u32 0), .sc (.int .u32 0), .sc (.int .u32 0), .sc (.int .u32 0), .sc (.int .u32 0), .sc (.int .u32 0), .sc (.int .u32 0), .sc (.int .u32 0), .sc (.int .u32 0), .sc (.int .u32 0), .sc (.int .u32 0), .sc (.int .u32 0), .sc (.int .u32 0), .sc (.int .u32 0), .sc (.int .u32 0), .sc (.int .u32 0), .sc (.int .u32 0), .sc (.int .u32 0), .sc (.int .u32 0), .sc (.int .u32 0), .sc (.int .u32 0), .sc (.int .u32 0), .sc (.int .u32 0), .sc (.int .u32 0), .sc (.int .u32 0), .sc (.int .u32 0), .sc (.int .u32 0), .sc (.int .u32 0), .sc (.int .u32 0), .sc (.int .u32 0)])
theorem JBF (f : Nat) (b_z b_f : Bool) (b : List PV) (k : Res -> Option Res) : JM tau JfT Try.f115 (Try.f115.body.get!) (JlS (G4 f) (G5 f)) [] 0 [.ro 5 b_z b_f b] [] k = JwF f b_z b_f b k := by kernel_rfl
theorem JwG (f : Nat) : Je (Try.f115.body.get!) (JlS (G4 f) (G5 f)) = [.l G2 WB XR (G4 f), .l G3 WC XR (G5 f)] := by kernel_rfl
theorem JwH (f : Nat) : ∀ q ∈ Je (Try.f115.body.get!) (JlS (G4 f) (G5 f)), q.Ok tau Try.prog 0 := by
 rw [JwG f]; simp only [List.forall_mem_cons, List.not_mem_nil, false_implies, implies_true, and_true]; exact ⟨JoH f, JoJ f⟩
theorem Jrl : Try.prog.funcs[115]? = some Try.f115 := by kernel_rfl
theorem Jrm : Try.f115.body = some (Try.f115.body.get!) := by kernel_rfl
theorem JwI : Enters Try.prog 115 := enters_of Jrl (by kernel_rfl) Jrm
-- FN sha.spread
abbrev ww (x : Int) : Int := IntKind.u32.wrap x
def JwJ (a b c d : Int) : Int := JF .or .u32 (JF .or .u32 (JF .or .u32 (Xz .u32 (ww a) 24) (Xz .u32 (ww b) 16)) (Xz .u32 (ww c) 8)) (ww d)
def sg0 (x : Int) : Int := JF .xor .u32 (JF .xor .u32 (rr x 7) (rr x 18)) (JA .u32 x 3)
def sg1 (x : Int) : Int := JF .xor .u32 (JF .xor .u32 (rr x 17) (rr x 19)) (JA .u32 x 10)
def Js7 (w16 w15 w7 w2 : Int) : Int := ww (ww (ww (w16 + sg0 w15) + w7) + sg1 w2)
def word (bs : List Int) (j : Nat) : Int := JwJ (bs.getD (4 * j) 0) (bs.getD (4 * j + 1) 0) (bs.getD (4 * j + 2) 0) (bs.getD (4 * j + 3) 0)
def Qy (bs : List Int) : Nat -> List Int
 | 0 => (List.range 16).map (word bs)
 | i + 1 => Qy bs i ++ [Js7 ((Qy bs i).getD i 0) ((Qy bs i).getD (i + 1) 0) ((Qy bs i).getD (i + 9) 0) ((Qy bs i).getD (i + 14) 0)]
def Qa (bs : List Int) : List Int := Qy bs 48
theorem J7 (bs : List Int) : ∀ i, (Qy bs i).length = 16 + i
 | 0 => by simp [Qy]
 | i + 1 => by simp [Qy, J7 bs i]; omega
def JbT (bs : List Int) (i : Nat) : List Int := (List.range i).map (word bs) ++ List.replicate (64 - i) 0
def JaD (bs : List Int) (i : Nat) : List Int := Qy bs i ++ List.replicate (48 - i) 0
theorem Jev (bs : List Int) (i : Nat) (h : i <= 48) : (JaD bs i).length = 64 := by simp [JaD, J7]; omega
theorem JfW (L : List Int) (m : Nat) (x : Int) : (L ++ List.replicate (m + 1) 0).set L.length x = (L ++ [x]) ++ List.replicate m 0 := by
 simp [List.replicate_succ]
theorem JkD (bs : List Int) (i : Nat) (h : i < 64) : (JbT bs i).set i (word bs i) = JbT bs (i + 1) := by
 have := JfW ((List.range i).map (word bs)) (63 - i) (word bs i)
 simp only [List.length_map, List.length_range] at this
 simp only [JbT, show 64 - i = 63 - i + 1 from by omega, this, show 64 - (i + 1) = 63 - i from by omega, List.range_succ, List.map_append, List.map_cons, List.map_nil]
theorem ZU (bs : List Int) (i j : Nat) (h : j < 16 + i) : (JaD bs i).getD j 0 = (Qy bs i).getD j 0 := by
 simp only [JaD, List.getD_eq_getElem?_getD]
 rw [List.getElem?_append_left (by rw [J7]; exact h)]
theorem JkE (bs : List Int) (i : Nat) (h : i < 48) (x : Int) : (JaD bs i).set (i + 16) x = (Qy bs i ++ [x]) ++ List.replicate (48 - (i + 1)) 0 := by
 have := JfW (Qy bs i) (47 - i) x
 rw [J7] at this
 rw [JaD, show 48 - i = 47 - i + 1 from by omega, show i + 16 = 16 + i from by omega, this, show 48 - (i + 1) = 47 - i from by omega]
theorem JlV (bs : List Int) (hb : bs.length = 64) (f : Nat) (k0 : List PV -> List PV -> Option Res) (nl fl : Bool) (w : List PV) : ∀ (d i n : Nat), i + d = 16 -> d < n ->
  Xq f k0 n nl fl (pu .u8 bs) (i : Int) w (pu .u32 (JbT bs i)) = k0 w (pu .u32 (JbT bs 16))
 | 0, i, n + 1, h, hn => by
   obtain rfl : i = 16 := by omega
   simp only [Xq, Y6]
   exact Jj (by decide)
 | d + 1, i, n + 1, h, hn => by
   have h4 : IntKind.i64.wrap (4 * (i : Int)) = ((4 * i : Nat) : Int) := by rw [wrap_i64 (by omega) (by omega)]; omega
   have h41 : IntKind.i64.wrap (((4 * i : Nat) : Int) + 1) = ((4 * i + 1 : Nat) : Int) := by rw [wrap_i64 (by omega) (by omega)]; omega
   have h42 : IntKind.i64.wrap (((4 * i : Nat) : Int) + 2) = ((4 * i + 2 : Nat) : Int) := by rw [wrap_i64 (by omega) (by omega)]; omega
   have h43 : IntKind.i64.wrap (((4 * i : Nat) : Int) + 3) = ((4 * i + 3 : Nat) : Int) := by rw [wrap_i64 (by omega) (by omega)]; omega
   have h5 : IntKind.i64.wrap ((i : Int) + 1) = ((i + 1 : Nat) : Int) := by rw [wrap_i64 (by omega) (by omega)]; omega
   simp only [Xq, Y6, h4, h41, h42, h43, h5, Int.toNat_natCast, zi]
   rw [J4 (by omega), J4 (by omega), J4 (by omega), J4 (by omega), Qt (by omega), Qt (by omega), Qt (by omega), Qt (by omega), JD, W8]
   refine (Ja (by simp; omega)).trans ?_
   refine (Ja (by simp; omega)).trans ?_
   refine (Ja (by simp; omega)).trans ?_
   refine (Ja (by simp; omega)).trans ?_
   refine (Ja (by simp; omega)).trans ?_
   refine (Ja (by simp; omega)).trans ?_
   have := JlV bs hb f k0 nl fl w d (i + 1) n (by omega) (by omega)
   rw [← JkD bs i (by omega)] at this
   exact this
theorem JlW (bs : List Int) (f : Nat) (k0 : List PV -> List PV -> Option Res) (w : List PV) : ∀ (d i n : Nat), i + d = 48 -> d < n ->
  Xr f k0 n ((i + 16 : Nat) : Int) w (pu .u32 (JaD bs i)) = k0 w (pu .u32 (Qy bs 48))
 | 0, i, n + 1, h, hn => by
   obtain rfl : i = 48 := by omega
   simp only [Xr, Y7]
   exact (Jj (by decide)).trans (by simp [JaD])
 | d + 1, i, n + 1, h, hn => by
   have h15 : IntKind.i64.wrap (((i + 16 : Nat) : Int) - 15) = ((i + 1 : Nat) : Int) := by rw [wrap_i64 (by omega) (by omega)]; omega
   have h2 : IntKind.i64.wrap (((i + 16 : Nat) : Int) - 2) = ((i + 14 : Nat) : Int) := by rw [wrap_i64 (by omega) (by omega)]; omega
   have h16 : IntKind.i64.wrap (((i + 16 : Nat) : Int) - 16) = ((i : Nat) : Int) := by rw [wrap_i64 (by omega) (by omega)]; omega
   have h7 : IntKind.i64.wrap (((i + 16 : Nat) : Int) - 7) = ((i + 9 : Nat) : Int) := by rw [wrap_i64 (by omega) (by omega)]; omega
   have h1 : IntKind.i64.wrap (((i + 16 : Nat) : Int) + 1) = ((i + 1 + 16 : Nat) : Int) := by rw [wrap_i64 (by omega) (by omega)]; omega
   have hl := Jev bs i (by omega)
   simp only [Xr, Y7, h15, h2, h16, h7, h1, Int.toNat_natCast, zi, Xl]
   rw [J4 (by omega), J4 (by omega), J4 (by omega), J4 (by omega), Qt (by omega), Qt (by omega), Qt (by omega), Qt (by omega), W8]
   refine (Ja (by simp; omega)).trans ?_
   refine (Ja (by simp; omega)).trans ?_
   refine (Ja (by simp)).trans ?_
   refine (Ja (by simp; omega)).trans ?_
   refine (Ja (by simp)).trans ?_
   refine (Ja (by simp; omega)).trans ?_
   refine (Ja (by simp)).trans ?_
   refine (Ja (by simp; omega)).trans ?_
   refine (Ja (by simp)).trans ?_
   refine (Ja (by simp; omega)).trans ?_
   have := JlW bs f k0 w d (i + 1) n (by omega) (by omega)
   rw [ZU bs i i (by omega), ZU bs i (i + 1) (by omega), ZU bs i (i + 9) (by omega), ZU bs i (i + 14) (by omega), JkE bs i (by omega)]
   exact this
theorem JoK (bs : List Int) (hb : bs.length = 64) (nl fl : Bool) (k : Res -> Option Res) : JwF 100 nl fl (pu .u8 bs) k = k ⟨.ar 159 (pu .u32 (Qa bs)), [], []⟩ := by
 have h0 : ∀ k0 w, Xq 100 k0 100 nl fl (pu .u8 bs) 0 w (pu .u32 (List.replicate 64 0)) = k0 w (pu .u32 (JbT bs 16)) := fun k0 w => JlV bs hb 100 k0 nl fl w 16 0 100 (by omega) (by omega)
 have h1 : ∀ k0 w, Xr 100 k0 100 16 w (pu .u32 (JbT bs 16)) = k0 w (pu .u32 (Qy bs 48)) := fun k0 w => JlW bs 100 k0 w 48 0 100 (by omega) (by omega)
 exact (h0 _ _).trans (h1 _ _)
def Jew : List PV -> List Ent -> (Res -> Option Res) -> Option Res
 | [.ro 5 nl fl b], [], k => bif Jl .u8 b && decide (b.length = 64) then k ⟨.ar 159 (pu .u32 (Qa (Ju b))), [], []⟩ else none
 | _, _, _ => none
def Jrn : Sig := { own := [], run := Jew }
theorem Js8 : Jh tau Try.prog 115 Jrn := JW Jr Jeu Js Jrl Jrm _ [] 0 [] Jew (JwH 100) fun xs es k res hr => by
 unfold Jew at hr
 split at hr
 · obtain ⟨hc, hr⟩ := JI hr
   simp only [Bool.and_eq_true, decide_eq_true_eq] at hc
   refine ⟨rfl, 0, (JBF 100 _ _ _ _).trans ?_⟩
   rw [Ql hc.1, JoK _ (by simpa using hc.2)]
   exact hr
 · cases hr
def Qu (g : Nat -> Int) (t : List Int) (i : Nat) : List Int := (List.range i).map g ++ t.drop i
theorem QO (g : Nat -> Int) (t : List Int) : Qu g t 0 = t := by simp [Qu]
theorem Wc (g : Nat -> Int) (t : List Int) : Qu g t t.length = (List.range t.length).map g := by simp [Qu]
theorem V6 (g : Nat -> Int) (t : List Int) (i : Nat) (h : i <= t.length) : (Qu g t i).length = t.length := by simp [Qu]; omega
theorem Qr (g : Nat -> Int) (t : List Int) (i : Nat) (h : i < t.length) : (Qu g t i).set i (g i) = Qu g t (i + 1) := by
 rw [Qu, List.set_append_right _ _ (by simp), List.drop_eq_getElem_cons h, List.length_map, List.length_range, Nat.sub_self, List.set_cons_zero]
 simp [Qu, List.range_succ]
theorem Jc7 (g : Nat -> Int) (t : List Int) (i : Nat) (h : i < t.length) : (Qu g t i).getD i 0 = t.getD i 0 := by
 simp only [Qu, List.getD_eq_getElem?_getD]
 rw [List.getElem?_append_right (by simp)]
 simp
def kks : List Int := [1116352408, 1899447441, 3049323471, 3921009573, 961987163, 1508970993, 2453635748, 2870763221, 3624381080, 310598401, 607225278, 1426881987, 1925078388, 2162078206, 2614888103, 3248222580, 3835390401, 4022224774, 264347078, 604807628, 770255983, 1249150122, 1555081692, 1996064986, 2554220882, 2821834349, 2952996808, 3210313671, 3336571891, 3584528711, 113926993, 338241895, 666307205, 773529912, 1294757372, 1396182291, 1695183700, 1986661051, 2177026350, 2456956037, 2730485921, 2820302411, 3259730800, 3345764771, 3516065817, 3600352804, 4094571909, 275423344, 430227734, 506948616, 659060556, 883997877, 958139571, 1322822218, 1537002063, 1747873779, 1955562222, 2024104815, 2227730452, 2361852424, 2428436474, 2756734187, 3204031479, 3329325298]
def iv : List Int := [1779033703, 3144134277, 1013904242, 2773480762, 1359893119, 2600822924, 528734635, 1541459225]
def xW (k w h e f g : Int) : Int := ww (ww (ww (ww (h + JF .xor .u32 (JF .xor .u32 (rr e 6) (rr e 11)) (rr e 25)) + JF .xor .u32 (JF .and .u32 e f) (JF .and .u32 (JF .xor .u32 (Int.ofNat (2 ^ IntKind.u32.bits - Nat.succ 0)) e) g)) + k) + w)
def yW (a b c : Int) : Int := ww (JF .xor .u32 (JF .xor .u32 (rr a 2) (rr a 13)) (rr a 22) + JF .xor .u32 (JF .xor .u32 (JF .and .u32 a b) (JF .and .u32 a c)) (JF .and .u32 b c))
def rnd (k w : Int) (t : List Int) : List Int :=
 [ww (xW k w (t.getD 7 0) (t.getD 4 0) (t.getD 5 0) (t.getD 6 0) + yW (t.getD 0 0) (t.getD 1 0) (t.getD 2 0)), t.getD 0 0, t.getD 1 0, t.getD 2 0,
  ww (t.getD 3 0 + xW k w (t.getD 7 0) (t.getD 4 0) (t.getD 5 0) (t.getD 6 0)), t.getD 4 0, t.getD 5 0, t.getD 6 0]
def G6 (W s : List Int) : Nat -> List Int
 | 0 => s
 | i + 1 => rnd (kks.getD i 0) (W.getD i 0) (G6 W s i)
theorem Xs (W s : List Int) (h : s.length = 8) : ∀ i, (G6 W s i).length = 8
 | 0 => h
 | i + 1 => rfl
def JhE (s bs : List Int) : List Int := (List.range 8).map fun i => ww ((G6 (Qa bs) s 64).getD i 0 + s.getD i 0)
theorem JfX (s bs : List Int) : (JhE s bs).length = 8 := by simp [JhE]
def Xb (s b : List Int) : Nat -> List Int
 | 0 => s
 | n + 1 => JhE (Xb s b n) ((b.drop (64 * n)).take 64)
theorem WD (s b : List Int) (h : s.length = 8) : ∀ n, (Xb s b n).length = 8
 | 0 => h
 | n + 1 => JfX _ _
def zs (m : Nat) : Nat := (120 - m % 64) % 64
def JoL (n : Nat) : List Int := (List.range 8).map fun (i : Nat) => IntKind.u8.wrap (JA .u64 (IntKind.u64.wrap (IntKind.u64.wrap (n : Int) * 8)) (56 - 8 * (i : Int)))
def QA (bs : List Int) : List Int := (bs ++ [128] ++ List.replicate (zs (bs.length + 1)) 0) ++ JoL bs.length
theorem JaE (bs : List Int) : (QA bs).length = 64 * ((QA bs).length / 64) := by
 have : (QA bs).length = bs.length + 1 + zs (bs.length + 1) + 8 := by simp [QA, JoL]; omega
 rw [this]; unfold zs; omega
def YN (s : List Int) (i : Nat) : Int := IntKind.u8.wrap (JA .u32 (s.getD (i / 4) 0) (24 - 8 * ((i % 4 : Nat) : Int)))
def JlX (s : List Int) : List Int := (List.range 32).map (YN s)
def Jjd (bs : List Int) : List Int := JlX (Xb iv (QA bs) ((QA bs).length / 64))
def JL (bs : List Int) : List Int := bif Nat.ble bs.length bs.length then Jjd bs else []
theorem Jbc (bs : List Int) : JL bs = Jjd bs := by
 have : Nat.ble bs.length bs.length = true := by rw [Nat.ble_eq]; exact Nat.le_refl _
 rw [JL, this]; rfl
theorem Qg (bs : List Int) : (JL bs).length = 32 := by simp [Jbc, Jjd, JlX]
theorem JbU (n : Nat) : (zi n).tmod 64 = ((n % 64 : Nat) : Int) := by
 show (n : Int).tmod 64 = _
 rw [Int.tmod_eq_emod_of_nonneg (by omega)]; omega
-- FN ref8.Hash
def G7 : Nat -> RS -> RS
 | 0, s => s
 | n + 1, s => G7 n (Qd 1 s)
def G8 : Nat -> RS -> List Int
 | 0, _ => []
 | n + 1, s => IntKind.u8.wrap (Wq 1 s) :: G8 n (Qd 1 s)
def JkF : Nat -> RT -> RT
 | 0, t => t
 | n + 1, t => JkF n (X9 1 t)
def hashS : RS -> RS := hid (G7 32)
def hashV : RS -> List Int := hid (G8 32)
def hashT : RT -> RT := hid (JkF 32)
def hashVT : RT -> List Int := hid fun t => G8 32 t.view
theorem hashS_eq (s : RS) : hashS s = G7 32 s := by rw [hashS, hid_eq]
theorem hashV_eq (s : RS) : hashV s = G8 32 s := by rw [hashV, hid_eq]
theorem hashT_eq (t : RT) : hashT t = JkF 32 t := by rw [hashT, hid_eq]
theorem hashVT_eq (t : RT) : hashVT t = G8 32 t.view := by rw [hashVT, hid_eq]
theorem JaF : ∀ (n : Nat) (s : RS), (G8 n s).length = n
 | 0, _ => rfl
 | n + 1, s => by simp [G8, JaF n]
@[simp] theorem hashV_length (s : RS) : (hashV s).length = 32 := by rw [hashV_eq]; exact JaF 32 s
theorem Jc8 : ∀ (n : Nat) (t : RT), (JkF n t).view = G7 n t.view
 | 0, _ => rfl
 | n + 1, t => by simp only [JkF, G7, Jc8 n, G0]
@[simp] theorem hashT_view (t : RT) : (hashT t).view = hashS t.view := by rw [hashT_eq, hashS_eq, Jc8]
@[simp] theorem hashVT_val (t : RT) : hashVT t = hashV t.view := by rw [hashVT_eq, hashV_eq]
theorem Jje : ∀ (n : Nat) {t : RT}, okT t = true -> okT (JkF n t) = true
 | 0, _, h => h
 | n + 1, t, h => Jje n (V5 h 1)
@[simp] theorem JwK {t : RT} (h : okT t = true) : okT (hashT t) = true := by rw [hashT_eq]; exact Jje 32 h
theorem Jjf : ∀ (n : Nat) {s : RS}, byB s.b = true -> byB (G7 n s).b = true
 | 0, _, h => h
 | n + 1, s, h => Jjf n (XQ h 1)
-- FN wire.read
def fS : Nat -> RS -> RS
 | 0, s => s
 | 1, s => Jb 1 s
 | n + 2, s => Jb 8 (fS (n + 1) s)
def Jc9 (c : Int) (s : RS) : RS := ⟨s.b, bif s.e == 0 then c else s.e⟩
def txR : Nat -> RS -> RS
 | 0, s => s
 | n + 1, s => txR n (J2 s)
def Js9 (s : RS) : Int := JB 1 (fS 13 s)
def JwL (s : RS) : Nat := bif decide (Js9 s > 4) then 0 else (Js9 s).toNat
def JwM (s : RS) : RS := bif decide (Js9 s > 4) then Jc9 4 (Jb 1 (fS 13 s)) else Jb 1 (fS 13 s)
def Jta : RS -> List Int := hid fun s => hashV (txR (JwL s) (JwM s))
theorem JoM (s : RS) : Jta s = hashV (txR (JwL s) (JwM s)) := by rw [Jta, hid_eq]
@[simp] theorem Jro (s : RS) : (Jta s).length = 32 := by rw [JoM]; exact hashV_length _
theorem Qp {s : RS} (h : byB s.b = true) (n : Nat) : byB (Jb n s).b = true := by rw [Xa]; exact XQ h n
theorem Jjg {s : RS} (h : byB s.b = true) : byB (J2 s).b = true := by rw [Jba]; exact XQ (XQ h 2) _
theorem Y8 : ∀ l : List PV, (Jn l).length = l.length
 | [] => rfl
 | p :: ps => by simp [Jn, Y8 ps]
theorem JkG {s : RS} (h : byB s.b = true) : (JU s).size <= 65535 := by
 rw [Jbb]
 show (Jn _).length <= _
 rw [Y8]
 have h1 := Vl (Wq 2 s).toNat (Qd 2 s)
 have h2 := X8 h (n := 2) (Nat.le_refl 2)
 omega
theorem JaG (t : ByteArray) : (Jg t).length = t.size := by simp only [Jg, List.length_map, Array.length_toList]; rfl
-- FN wire.check | wire.key
def WE (x m : Int) : Bool := decide (x >= 0) && decide (x <= m)
def JBG (fr to wh wn cd cu ve co ad au su er : Int) : Bool := WE fr 2 && (WE to 2 && (!(fr == to) && (WE wh 2 && (WE wn 99 && (WE cd 2 && (WE cu 7 && (WE ad 2 && (WE au 7 && (WE ve 1073741824 && (WE co 1073741824 && (WE su 1073741824 && WE er 255)))))))))))
def JBH (kd fr to wh wn cd cu ve co ad au su er : Int) : Int := bif WE (IntKind.i64.wrap (kd - 1)) 4 then (bif JBG fr to wh wn cd cu ve co ad au su er then 0 else 1) else 3
structure C13 where
 (kd fr to wh wn cd cu ve co ad au su er : Int)
def chk : C13 -> Int := hid fun c => JBH c.kd c.fr c.to c.wh c.wn c.cd c.cu c.ve c.co c.ad c.au c.su c.er
def JfY (l : List PV) (d : Int) : PV := bif WE d 2 then l.getD d.toNat .top else .ro 5 true true []
structure K3 where
 (l : List PV) (d : Int)
def Jex : K3 -> List PV := hid fun c => (JfY c.l c.d).els
theorem Jjh (c : K3) : Jex c = (JfY c.l c.d).els := by rw [Jex, hid_eq]
def JwN : Fns := F0
theorem JoN : Jy tau Try.prog JwN := JE
def Jji : An := (.seq .leaf (.seq (.seq .leaf (.cond .leaf .leaf)) (.seq (.seq .leaf (.seq .leaf (.cond .leaf .leaf))) (.seq .leaf .leaf))))
def JwO (f : Nat) (n : Int) (k : Res -> Option Res) : Option Res := bif decide (n < 0) then none else bif decide (IntKind.i64.wrap (n - IntKind.i64.wrap (zi 0 - zi 0)) > 0) then bif decide (0 <= IntKind.i64.wrap (n - IntKind.i64.wrap (zi 0 - zi 0))) && Jf (IntKind.i64.wrap (n - IntKind.i64.wrap (zi 0 - zi 0))).toNat 1 && true then k (Res.mk (.ow 5 16 [] 0 0 none) [] [.vec false 5 (IntKind.i64.wrap (n - IntKind.i64.wrap (zi 0 - zi 0)) == 0) (List.replicate (IntKind.i64.wrap (n - IntKind.i64.wrap (zi 0 - zi 0))).toNat (.sc (.int .u8 0)))]) else none else k (Res.mk (.ro 5 true true []) [] [])
theorem JBI (f : Nat) (n : Int) (k : Res -> Option Res) : JM tau JwN Try.f114 (Try.f114.body.get!) Jji [] 0 [.ro 5 true true [], .sc (.int .i64 n)] [] k = JwO f n k := by kernel_rfl
theorem JwP (f : Nat) : Je (Try.f114.body.get!) Jji = [] := by kernel_rfl
theorem JwQ (f : Nat) : ∀ q ∈ Je (Try.f114.body.get!) Jji, q.Ok tau Try.prog 0 := by
 rw [JwP f]; intro q hq; cases hq
theorem Jrp : Try.prog.funcs[114]? = some Try.f114 := by kernel_rfl
theorem Jrq : Try.f114.body = some (Try.f114.body.get!) := by kernel_rfl
theorem JwR : Enters Try.prog 114 := enters_of Jrp (by kernel_rfl) Jrq
def JhF : List PV -> List Ent -> (Res -> Option Res) -> Option Res
 | [.ro 5 true true [], .sc (.int .i64 n)], [], k => JwO 0 n k
 | _, _, _ => none
def JwS : Sig := { own := [], run := JhF }
theorem JwT : Jh tau Try.prog 114 JwS := JW Jr JoN Js Jrp Jrq Jji [] 0 [] JhF (JwQ 0) fun xs es k res hr => by
 unfold JhF at hr
 split at hr
 · exact ⟨rfl, 0, (JBI 0 _  _).trans hr⟩
 · cases hr
def N79 : Nat := 36
def F79 : Fns := JG 114 JwS (F0)
theorem JhG : Jy tau Try.prog F79 := (JE).add JwT JwR
def Jda : Code := Qj (Try.f79.body.get!) [1, 1, 0, 1, 0, 0]
def Yb : Nm := [(0, .any), (3, .any), (9, .any), (10, .any), (11, .any)]
def Y9 : Nm := [(0, .any), (3, .any)]
def JfZ : An := (.seq .leaf (.seq (.cond .leaf .leaf) (.seq (.block none (.seq .leaf (.seq .leaf (.seq .leaf (.cond .leaf .leaf))))) .leaf)))
def Jdb : Code := Qj (Try.f79.body.get!) [1, 1, 1, 1, 0, 1, 0, 0]
def Yc : Nm := [(6, .own), (25, .any), (26, .any), (27, .any)]
def Za : Nm := [(6, .any)]
def Jf0 : An := (.seq .leaf (.seq (.cond .leaf .leaf) (.seq (.block none (.seq .leaf .leaf)) .leaf)))
def JoO (r0 : QC) (r1 : QC) : An := (.seq .leaf (.seq .leaf (.seq (.seq .leaf (.block none (.sum Yb N79 r0))) (.seq .leaf (.seq (.seq .leaf (.block none (.sum Yc N79 r1))) (.seq .leaf .leaf))))))
def V7 (f : Nat) (rc : Bool -> Bool -> List PV -> Int -> Bool -> Bool -> List PV -> Int -> Int -> Option Res) (k0 : Bool -> Bool -> List PV -> Int -> Option Res) (v0 v1 : Bool) (v2 : List PV) (v3 : Int) (v4 v5 : Bool) (v6 : List PV) (v7 v8 : Int) : Option Res := bif decide (v8 < v7) then bif decide (0 <= v8) && decide (v8 < zi v6.length) && PV.isRo 5 (v6.getD v8.toNat PV.top) && true then bif decide (IntKind.i64.wrap (v3 + zi (v6.getD v8.toNat PV.top).els.length) < 0) then none else rc v0 v1 v2 (IntKind.i64.wrap (v3 + zi (v6.getD v8.toNat PV.top).els.length)) v4 v5 v6 v7 (IntKind.i64.wrap (v8 + 1)) else none else k0 v0 v1 v2 v3
def Vn (f : Nat) (k0 : Bool -> Bool -> List PV -> Int -> Option Res) : Nat -> Bool -> Bool -> List PV -> Int -> Bool -> Bool -> List PV -> Int -> Int -> Option Res
 | 0, _, _, _, _, _, _, _, _, _ => none
 | n + 1, v0, v1, v2, v3, v4, v5, v6, v7, v8 => V7 f (Vn f k0 n) k0 v0 v1 v2 v3 v4 v5 v6 v7 v8
theorem JoP (f : Nat) (k : Kont) (n : Nat) (v0 v1 : Bool) (v2 : List PV) (v3 : Int) (v4 v5 : Bool) (v6 : List PV) (v7 v8 : Int) : Jp tau 0 Yb (fun s k => ev tau F79 0 0 Jda (JfZ ) s k) (n + 1) (Jc Yb N79 [.ro 29 v0 v1 v2, .sc (.int .i64 v3), .ro 29 v4 v5 v6, .sc (.int .i64 v7), .sc (.int .i64 v8)] []) (Jq tau 0 Y9 k) = V7 f (fun v0 v1 v2 v3 v4 v5 v6 v7 v8 => Jp tau 0 Yb (fun s k => ev tau F79 0 0 Jda (JfZ ) s k) n (Jc Yb N79 [.ro 29 v0 v1 v2, .sc (.int .i64 v3), .ro 29 v4 v5 v6, .sc (.int .i64 v7), .sc (.int .i64 v8)] []) (Jq tau 0 Y9 k)) (fun x0 x1 x2 x3 => k (Ex.exit 0) (Jc Y9 N79 [.ro 29 x0 x1 x2, .sc (.int .i64 x3)] [])) v0 v1 v2 v3 v4 v5 v6 v7 v8 := by kernel_rfl
theorem Jjj (f : Nat) (k : Kont) : ∀ (n : Nat) (v0 v1 : Bool) (v2 : List PV) (v3 : Int) (v4 v5 : Bool) (v6 : List PV) (v7 v8 : Int), Jp tau 0 Yb (fun s k => ev tau F79 0 0 Jda (JfZ ) s k) n (Jc Yb N79 [.ro 29 v0 v1 v2, .sc (.int .i64 v3), .ro 29 v4 v5 v6, .sc (.int .i64 v7), .sc (.int .i64 v8)] []) (Jq tau 0 Y9 k) = Vn f (fun x0 x1 x2 x3 => k (Ex.exit 0) (Jc Y9 N79 [.ro 29 x0 x1 x2, .sc (.int .i64 x3)] [])) n v0 v1 v2 v3 v4 v5 v6 v7 v8 | 0, _, _, _, _, _, _, _, _, _ => rfl | n + 1, v0, v1, v2, v3, v4, v5, v6, v7, v8 => (JoP f k n v0 v1 v2 v3 v4 v5 v6 v7 v8).trans (congrArg (fun r => V7 f r (fun x0 x1 x2 x3 => k (Ex.exit 0) (Jc Y9 N79 [.ro 29 x0 x1 x2, .sc (.int .i64 x3)] [])) v0 v1 v2 v3 v4 v5 v6 v7 v8) (by funext v0 v1 v2 v3 v4 v5 v6 v7 v8; exact Jjj f k n v0 v1 v2 v3 v4 v5 v6 v7 v8))
def JbV (f : Nat) : List PV -> List (Nat × Ent) -> Kont -> Option Res
 | [.ro 29 v0 v1 v2, .sc (.int .i64 v3), .ro 29 v4 v5 v6, .sc (.int .i64 v7),
 .sc (.int .i64 v8)], [], k => Vn f (fun x0 x1 x2 x3 => k (Ex.exit 0) (Jc Y9 N79 [.ro 29 x0 x1 x2, .sc (.int .i64 x3)] [])) f v0 v1 v2 v3 v4 v5 v6 v7 v8
 | _, _, _ => none
theorem Jtb (f : Nat) : Je Jda JfZ = [] := by kernel_rfl
theorem Jtc (f : Nat) : (Item.l Jda Yb N79 (JbV f)).Ok tau Try.prog 0 := JJ Jr JhG Js (x := JfZ) (nm2 := Y9) (Jk _ _ (by rw [Jtb f]; intro q hq; cases hq)) fun vs hp k res hr => by
 unfold JbV at hr
 split at hr
 · exact ⟨f, 0, (Jjj f _ f _ _ _ _ _ _ _ _ _ ).trans hr⟩
 · cases hr
def V8 (f : Nat) (rc : Nat -> Bool -> Bool -> List PV -> Int -> Int -> Bool -> List PV -> Option Res) (k0 : Nat -> Bool -> List PV -> Option Res) (v0 : Nat) (v1 v2 : Bool) (v3 : List PV) (v4 v5 : Int) (v6 : Bool) (v7 : List PV) : Option Res := bif decide (v5 < v4) then bif decide (0 <= v5) && decide (v5 < zi v3.length) && PV.isRo 5 (v3.getD v5.toNat PV.top) && true then bif Jf (v0 + (v3.getD v5.toNat PV.top).els.length) 1 && true then rc (v0 + (v3.getD v5.toNat PV.top).els.length) v1 v2 v3 v4 (IntKind.i64.wrap (v5 + 1)) (v6 && (v3.getD v5.toNat PV.top).els.isEmpty) (List.take v0 v7 ++ (v3.getD v5.toNat PV.top).els) else none else none else k0 v0 v6 v7
def XB (f : Nat) (k0 : Nat -> Bool -> List PV -> Option Res) : Nat -> Nat -> Bool -> Bool -> List PV -> Int -> Int -> Bool -> List PV -> Option Res
 | 0, _, _, _, _, _, _, _, _ => none
 | n + 1, v0, v1, v2, v3, v4, v5, v6, v7 => V8 f (XB f k0 n) k0 v0 v1 v2 v3 v4 v5 v6 v7
theorem JoQ (f : Nat) (k : Kont) (n v0 : Nat) (v1 v2 : Bool) (v3 : List PV) (v4 v5 : Int) (v6 : Bool) (v7 : List PV) : Jp tau 0 Yc (fun s k => ev tau F79 0 0 Jdb (Jf0 ) s k) (n + 1) (Jc Yc N79 [.ow 5 592 [] 0 v0 none, .ro 29 v1 v2 v3, .sc (.int .i64 v4), .sc (.int .i64 v5)] [(592, .vec false 5 v6 v7)]) (Jq tau 0 Za k) = V8 f (fun v0 v1 v2 v3 v4 v5 v6 v7 => Jp tau 0 Yc (fun s k => ev tau F79 0 0 Jdb (Jf0 ) s k) n (Jc Yc N79 [.ow 5 592 [] 0 v0 none, .ro 29 v1 v2 v3, .sc (.int .i64 v4), .sc (.int .i64 v5)] [(592, .vec false 5 v6 v7)]) (Jq tau 0 Za k)) (fun x0 x1 x2 => k (Ex.exit 2) (Jc Za N79 [.ow 5 592 [] 0 x0 none] [(592, .vec false 5 x1 x2)])) v0 v1 v2 v3 v4 v5 v6 v7 := by kernel_rfl
theorem Jjk (f : Nat) (k : Kont) : ∀ (n v0 : Nat) (v1 v2 : Bool) (v3 : List PV) (v4 v5 : Int) (v6 : Bool) (v7 : List PV), Jp tau 0 Yc (fun s k => ev tau F79 0 0 Jdb (Jf0 ) s k) n (Jc Yc N79 [.ow 5 592 [] 0 v0 none, .ro 29 v1 v2 v3, .sc (.int .i64 v4), .sc (.int .i64 v5)] [(592, .vec false 5 v6 v7)]) (Jq tau 0 Za k) = XB f (fun x0 x1 x2 => k (Ex.exit 2) (Jc Za N79 [.ow 5 592 [] 0 x0 none] [(592, .vec false 5 x1 x2)])) n v0 v1 v2 v3 v4 v5 v6 v7 | 0, _, _, _, _, _, _, _, _ => rfl | n + 1, v0, v1, v2, v3, v4, v5, v6, v7 => (JoQ f k n v0 v1 v2 v3 v4 v5 v6 v7).trans (congrArg (fun r => V8 f r (fun x0 x1 x2 => k (Ex.exit 2) (Jc Za N79 [.ow 5 592 [] 0 x0 none] [(592, .vec false 5 x1 x2)])) v0 v1 v2 v3 v4 v5 v6 v7) (by funext v0 v1 v2 v3 v4 v5 v6 v7; exact Jjk f k n v0 v1 v2 v3 v4 v5 v6 v7))
def JbW (f : Nat) : List PV -> List (Nat × Ent) -> Kont -> Option Res
 | [.ow 5 592 [] 0 v0 none, .ro 29 v1 v2 v3, .sc (.int .i64 v4),
 PV.sc
  (Value.int IntKind.i64
   v5)], [(592, .vec false 5 v6 v7)], k => XB f (fun x0 x1 x2 => k (Ex.exit 2) (Jc Za N79 [.ow 5 592 [] 0 x0 none] [(592, .vec false 5 x1 x2)])) f v0 v1 v2 v3 v4 v5 v6 v7
 | _, _, _ => none
theorem Jtd (f : Nat) : Je Jdb Jf0 = [] := by kernel_rfl
theorem Jte (f : Nat) : (Item.l Jdb Yc N79 (JbW f)).Ok tau Try.prog 0 := JJ Jr JhG Js (x := Jf0) (nm2 := Za) (Jk _ _ (by rw [Jtd f]; intro q hq; cases hq)) fun vs hp k res hr => by
 unfold JbW at hr
 split at hr
 · exact ⟨f, 0, (Jjk f _ f _ _ _ _ _ _ _ _ ).trans hr⟩
 · cases hr
def g79 (f : Nat) (y0 y1 : Bool) (slices : List PV) (k : Res -> Option Res) : Option Res := Vn f (fun x0_0 x1_0 x2_0 x3_0 => bif decide (x3_0 < 0) then none else bif decide (IntKind.i64.wrap (x3_0 - IntKind.i64.wrap (zi 0 - zi 0)) > 0) then bif decide (0 <= IntKind.i64.wrap (x3_0 - IntKind.i64.wrap (zi 0 - zi 0))) && Jf (IntKind.i64.wrap (x3_0 - IntKind.i64.wrap (zi 0 - zi 0))).toNat 1 && true then XB f (fun x0_1 x1_1 x2_1 => k (Res.mk (.ow 5 16 [] 0 x0_1 none) [] [.vec false 5 x1_1 x2_1])) f (0) x0_0 x1_0 x2_0 (zi x2_0.length) (0) (IntKind.i64.wrap (x3_0 - IntKind.i64.wrap (zi 0 - zi 0)) == 0) (List.replicate (IntKind.i64.wrap (x3_0 - IntKind.i64.wrap (zi 0 - zi 0))).toNat (.sc (.int .u8 0))) else none else XB f (fun x0_2 x1_2 x2_2 => k (Res.mk (.ow 5 16 [] 0 x0_2 none) [] [.vec false 5 x1_2 x2_2])) f (0) x0_0 x1_0 x2_0 (zi x2_0.length) (0) true ([])) f y0 y1 slices (0) y0 y1 slices (zi slices.length) (0)
theorem e79 (f : Nat) (y0 y1 : Bool) (slices : List PV) (k : Res -> Option Res) : JM tau F79 Try.f79 (Try.f79.body.get!) (JoO (JbV f) (JbW f)) [] 0 [.ro 29 y0 y1 slices] [] k = g79 f y0 y1 slices k := by kernel_rfl
theorem JBJ (f : Nat) : Je (Try.f79.body.get!) (JoO (JbV f) (JbW f)) = [.l Jda Yb N79 (JbV f), .l Jdb Yc N79 (JbW f)] := by kernel_rfl
theorem JBK (f : Nat) : ∀ q ∈ Je (Try.f79.body.get!) (JoO (JbV f) (JbW f)), q.Ok tau Try.prog 0 := by
 rw [JBJ f]; simp only [List.forall_mem_cons, List.not_mem_nil, false_implies, implies_true, and_true]; exact ⟨Jtc f, Jte f⟩
theorem JwU : Try.prog.funcs[79]? = some Try.f79 := by kernel_rfl
theorem JwV : Try.f79.body = some (Try.f79.body.get!) := by kernel_rfl
theorem Jtf : Enters Try.prog 79 := enters_of JwU (by kernel_rfl) JwV
-- FN slices.Concat[[]byte,byte]
def Jw (l : List PV) : List PV := (l.map PV.els).flatten
@[simp] theorem V9 : Jw [] = [] := rfl
@[simp] theorem WX (p : PV) (l : List PV) : Jw (p :: l) = p.els ++ Jw l := by simp [Jw]
theorem JaH (a b : List PV) : Jw (a ++ b) = Jw a ++ Jw b := by simp [Jw]
theorem JbX (l : List PV) (i : Nat) (h : i < l.length) : l.take (i + 1) = l.take i ++ [l.getD i .top] := by
 rw [List.take_add_one, List.getD_eq_getElem?_getD, List.getElem?_eq_getElem h]; rfl
theorem JbY (l : List PV) (i : Nat) (h : i < l.length) : l.drop i = l.getD i .top :: l.drop (i + 1) := by
 rw [List.drop_eq_getElem_cons h, List.getD_eq_getElem?_getD, List.getElem?_eq_getElem h]; rfl
theorem WY (l : List PV) (i : Nat) (h : i < l.length) : Jw (l.take (i + 1)) = Jw (l.take i) ++ (l.getD i .top).els := by
 rw [JbX l i h, JaH, WX, V9, List.append_nil]
theorem WF (l : List PV) (i : Nat) : (Jw (l.take i)).length <= (Jw l).length := by
 have : Jw l = Jw (l.take i) ++ Jw (l.drop i) := by rw [← JaH, List.take_append_drop]
 rw [this, List.length_append]; omega
theorem Jdc {l : List PV} (h : l.all (PV.isRo 5) = true) {i : Nat} (hi : i < l.length) : (l.getD i .top).isRo 5 = true := by
 rw [List.getD_eq_getElem?_getD, List.getElem?_eq_getElem hi]
 exact List.all_eq_true.1 h _ (List.getElem_mem hi)
theorem JaI {α : Type} (a b : List α) : (a ++ b).isEmpty = (a.isEmpty && b.isEmpty) := by cases a <;> rfl
theorem Jrr (f : Nat) (k0 : Bool -> Bool -> List PV -> Int -> Option Res) (a b : Bool) (c : List PV) (nl fl : Bool) (l : List PV) (hl : l.all (PV.isRo 5) = true) (hs : (Jw l).length <= 140737488355328) (hn : l.length <= 140737488355328) : ∀ (d i n : Nat), i + d = l.length -> d < n ->
  Vn f k0 n a b c ((Jw (l.take i)).length : Int) nl fl l (l.length : Int) (i : Int) = k0 a b c ((Jw l).length : Int)
 | 0, i, n + 1, h, hd => by
   obtain rfl : i = l.length := by omega
   simp only [Vn, V7]
   exact (Jj (by simp)).trans (by rw [List.take_length])
 | d + 1, i, n + 1, h, hd => by
   have hle := WF l (i + 1)
   have hadd : (Jw (l.take (i + 1))).length = (Jw (l.take i)).length + (l.getD i .top).els.length := by rw [WY l i (by omega), List.length_append]
   have h1 : IntKind.i64.wrap ((i : Int) + 1) = ((i + 1 : Nat) : Int) := by rw [wrap_i64 (by omega) (by omega)]; omega
   have h2 : IntKind.i64.wrap (((Jw (l.take i)).length : Int) + ((l.getD i .top).els.length : Int)) = ((Jw (l.take (i + 1))).length : Int) := by rw [wrap_i64 (by omega) (by omega)]; omega
   simp only [Vn, V7, zi, Int.toNat_natCast, h1, h2]
   refine (Ja (by simp <;> omega)).trans ?_
   refine (Ja (by rw [Jdc hl (by omega)]; simp; omega)).trans ?_
   refine (Jj (by simp <;> omega)).trans ?_
   exact Jrr f k0 a b c nl fl l hl hs hn d (i + 1) n (by omega) (by omega)
theorem JlY (f : Nat) (k0 : Nat -> Bool -> List PV -> Option Res) (nl fl : Bool) (l : List PV) (hl : l.all (PV.isRo 5) = true) (hs : (Jw l).length <= 140737488355328) (hn : l.length <= 140737488355328) : ∀ (d i n : Nat) (z : Bool) (v : List PV), i + d = l.length -> d < n -> v.take (Jw (l.take i)).length = Jw (l.take i) -> (d = 0 -> v = Jw l) ->
  XB f k0 n (Jw (l.take i)).length nl fl l (l.length : Int) (i : Int) z v = k0 (Jw l).length (z && (Jw (l.drop i)).isEmpty) (Jw l)
 | 0, i, n + 1, z, v, h, hd, hv, h0 => by
   obtain rfl : i = l.length := by omega
   simp only [XB, V8]
   refine (Jj (by simp)).trans ?_
   rw [List.take_length, h0 rfl, List.drop_length]; simp
 | d + 1, i, n + 1, z, v, h, hd, hv, h0 => by
   have hle := WF l (i + 1)
   have hadd : (Jw (l.take (i + 1))).length = (Jw (l.take i)).length + (l.getD i .top).els.length := by rw [WY l i (by omega), List.length_append]
   have h1 : IntKind.i64.wrap ((i : Int) + 1) = ((i + 1 : Nat) : Int) := by rw [wrap_i64 (by omega) (by omega)]; omega
   simp only [XB, V8, zi, Int.toNat_natCast, h1, hv]
   refine (Ja (by simp <;> omega)).trans ?_
   refine (Ja (by rw [Jdc hl (by omega)]; simp; omega)).trans ?_
   refine (Ja (by simp only [Jf, Bool.and_true, decide_eq_true_eq]; omega)).trans ?_
   have := JlY f k0 nl fl l hl hs hn d (i + 1) n (z && (l.getD i .top).els.isEmpty) (Jw (l.take (i + 1))) (by omega) (by omega) (List.take_length) (fun hd0 => by rw [show i + 1 = l.length from by omega, List.take_length])
   rw [hadd, WY l i (by omega)] at this
   rw [this, JbY l i (by omega), WX, JaI, Bool.and_assoc]
def JhH : List PV -> List Ent -> (Res -> Option Res) -> Option Res
 | [.ro 29 nl fl l], [], k => bif l.all (PV.isRo 5) && (decide ((Jw l).length <= 140737488355328) && decide (l.length <= 140737488355328)) then k ⟨.ow 5 16 [] 0 (Jw l).length none, [], [.vec false 5 (Jw l).isEmpty (Jw l)]⟩ else none
 | _, _, _ => none
def JoR : Sig := { own := [], run := JhH }
theorem Jtg (nl fl : Bool) (l : List PV) (k : Res -> Option Res) (hl : l.all (PV.isRo 5) = true) (hs : (Jw l).length <= 140737488355328) (hn : l.length <= 140737488355328) :
  g79 (l.length + 1) nl fl l k = k ⟨.ow 5 16 [] 0 (Jw l).length none, [], [.vec false 5 (Jw l).isEmpty (Jw l)]⟩ := by
 have h0 := Jrr (l.length + 1) (fun x0_0 x1_0 x2_0 x3_0 =>
  bif decide (x3_0 < 0) then
   none
  else bif decide (IntKind.i64.wrap (x3_0 - IntKind.i64.wrap (zi 0 - zi 0)) > 0) then
   bif decide (0 <= IntKind.i64.wrap (x3_0 - IntKind.i64.wrap (zi 0 - zi 0))) && Jf (IntKind.i64.wrap (x3_0 - IntKind.i64.wrap (zi 0 - zi 0))).toNat 1 && true then
    XB (l.length + 1) (fun x0_1 x1_1 x2_1 =>
     k (Res.mk (PV.ow 5 16 [] 0 x0_1 none) []
      [Ent.vec false 5 x1_1
       x2_1])) (l.length + 1) (0) x0_0 x1_0 x2_0 (zi
     x2_0.length) (0) (IntKind.i64.wrap (x3_0 - IntKind.i64.wrap (zi 0 - zi 0)) ==
     0) (List.replicate (IntKind.i64.wrap (x3_0 - IntKind.i64.wrap (zi 0 - zi 0))).toNat (PV.sc (Value.int IntKind.u8 0)))
   else none
  else XB (l.length + 1) (fun x0_2 x1_2 x2_2 =>
   k (Res.mk (PV.ow 5 16 [] 0 x0_2 none) [] [Ent.vec false 5 x1_2 x2_2])) (l.length + 1) (0) x0_0 x1_0 x2_0 (zi x2_0.length) (0) true ([])) nl fl l nl fl l hl hs hn l.length 0 (l.length + 1) (by omega) (by omega)
 refine h0.trans ?_
 have hw : IntKind.i64.wrap (((Jw l).length : Int) - IntKind.i64.wrap (zi 0 - zi 0)) = ((Jw l).length : Int) := by
  have : IntKind.i64.wrap (zi 0 - zi 0) = 0 := by decide
  rw [this, wrap_i64 (by omega) (by omega)]; omega
 simp only [hw]
 refine (Jj (by simp <;> omega)).trans ?_
 cases he : (Jw l).isEmpty with
 | true =>
  have he' : Jw l = [] := by simpa using he
  refine (Jj (by simp [he'])).trans ?_
  have := JlY (l.length + 1) (fun x0_2 x1_2 x2_2 => k (Res.mk (PV.ow 5 16 [] 0 x0_2 none) [] [Ent.vec false 5 x1_2 x2_2])) nl fl l hl hs hn l.length 0 (l.length + 1) true [] (by omega) (by omega) (by simp) (fun _ => he'.symm)
  refine this.trans ?_
  simp [he']
 | false =>
  have he' : Jw l ≠ [] := by simpa using he
  have hpos : 0 < (Jw l).length := List.length_pos_iff.2 he'
  have hl0 : l.length ≠ 0 := by
   intro h; rw [List.length_eq_zero_iff] at h; subst h; simp at he'
  refine (Ja (by simp <;> omega)).trans ?_
  refine (Ja (by simp [Jf] <;> omega)).trans ?_
  have := JlY (l.length + 1) (fun x0_2 x1_2 x2_2 => k (Res.mk (PV.ow 5 16 [] 0 x0_2 none) [] [Ent.vec false 5 x1_2 x2_2])) nl fl l hl hs hn l.length 0 (l.length + 1) (((Jw l).length : Int) == 0) (List.replicate (((Jw l).length : Int)).toNat (PV.sc (Value.int IntKind.u8 0))) (by omega) (by omega) (by simp) (fun h => absurd h hl0)
  refine this.trans ?_
  have hz : (((Jw l).length : Int) == 0) = false := by simp [he']
  rw [hz]; rfl
theorem JlZ : Jh tau Try.prog 79 JoR := Jek Jr JhG Js JwU JwV (fun n => JoO (JbV n) (JbW n)) [] 0 [] JhH (fun n => JBK n) fun xs es k res hr => by
 unfold JhH at hr
 split at hr
 · rename_i nl fl l
   obtain ⟨hc, hr⟩ := JI hr
   simp only [Bool.and_eq_true, decide_eq_true_eq] at hc
   refine ⟨rfl, l.length + 1, 0, (e79 _ _ _ _ _).trans ?_⟩
   rw [Jtg _ _ _ _ hc.1 hc.2.1 hc.2.2]; exact hr
 · cases hr
def Jrs : Fns := JG 79 JoR (F0)
theorem Jl0 : Jy tau Try.prog Jrs := (JE).add JlZ Jtf
def Jey : An := (.seq .leaf (.seq .leaf .leaf))
def Jl1 (f : Nat) (b_z b_f : Bool) (b : List PV) (n : Int) (k : Res -> Option Res) : Option Res := bif decide ((Jw [.ro 5 b_z b_f b, .ro 5 false false [.sc (.int .u8 (IntKind.u8.wrap n))]]).length <= 140737488355328) && true then k (Res.mk (.ow 5 16 [] 0 (Jw [.ro 5 b_z b_f b, .ro 5 false false [.sc (.int .u8 (IntKind.u8.wrap n))]]).length none) [] [.vec false 5 (Jw [.ro 5 b_z b_f b, .ro 5 false false [.sc (.int .u8 (IntKind.u8.wrap n))]]).isEmpty (Jw [.ro 5 b_z b_f b, .ro 5 false false [.sc (.int .u8 (IntKind.u8.wrap n))]])]) else none
theorem JwW (f : Nat) (b_z b_f : Bool) (b : List PV) (n : Int) (k : Res -> Option Res) : JM tau Jrs Try.f130 (Try.f130.body.get!) Jey [] 0 [.ro 5 b_z b_f b, .sc (.int .i64 n)] [] k = Jl1 f b_z b_f b n k := by kernel_rfl
theorem Jth (f : Nat) : Je (Try.f130.body.get!) Jey = [] := by kernel_rfl
theorem Jti (f : Nat) : ∀ q ∈ Je (Try.f130.body.get!) Jey, q.Ok tau Try.prog 0 := by
 rw [Jth f]; intro q hq; cases hq
theorem Jtj : Try.prog.funcs[130]? = some Try.f130 := by kernel_rfl
theorem Jtk : Try.f130.body = some (Try.f130.body.get!) := by kernel_rfl
def JwX : Fns := JG 79 JoR (F0)
theorem JoS : Jy tau Try.prog JwX := (JE).add JlZ Jtf
def Jjl : An := (.seq .leaf (.seq .leaf (.seq .leaf .leaf)))
def Jtl (f : Nat) (b_z b_f : Bool) (b : List PV) (s : ByteArray) (k : Res -> Option Res) : Option Res := bif decide (0 <= JK (zi s.size) 65535) && true && decide ((JK (zi s.size) 65535).toNat <= s.size) && true then bif Jf (s.extract 0 (JK (zi s.size) 65535).toNat).size 1 && true then bif decide ((Jw [.ro 5 b_z b_f b, .ro 5 false false [.sc (.int .u8 (IntKind.u8.wrap (zi (s.extract 0 (JK (zi s.size) 65535).toNat).size))), .sc (.int .u8 (IntKind.u8.wrap (JA IntKind.i64 (zi (s.extract 0 (JK (zi s.size) 65535).toNat).size) 8)))], .ro 5 false false (List.take (s.extract 0 (JK (zi s.size) 65535).toNat).size (Jg (s.extract 0 (JK (zi s.size) 65535).toNat)))]).length <= 140737488355328) && true then k (Res.mk (.ow 5 16 [] 0 (Jw [.ro 5 b_z b_f b, .ro 5 false false [.sc (.int .u8 (IntKind.u8.wrap (zi (s.extract 0 (JK (zi s.size) 65535).toNat).size))), .sc (.int .u8 (IntKind.u8.wrap (JA IntKind.i64 (zi (s.extract 0 (JK (zi s.size) 65535).toNat).size) 8)))], .ro 5 false false (List.take (s.extract 0 (JK (zi s.size) 65535).toNat).size (Jg (s.extract 0 (JK (zi s.size) 65535).toNat)))]).length none) [] [.vec false 5 (Jw [.ro 5 b_z b_f b, .ro 5 false false [.sc (.int .u8 (IntKind.u8.wrap (zi (s.extract 0 (JK (zi s.size) 65535).toNat).size))), .sc (.int .u8 (IntKind.u8.wrap (JA IntKind.i64 (zi (s.extract 0 (JK (zi s.size) 65535).toNat).size) 8)))], .ro 5 false false (List.take (s.extract 0 (JK (zi s.size) 65535).toNat).size (Jg (s.extract 0 (JK (zi s.size) 65535).toNat)))]).isEmpty (Jw [.ro 5 b_z b_f b, .ro 5 false false [.sc (.int .u8 (IntKind.u8.wrap (zi (s.extract 0 (JK (zi s.size) 65535).toNat).size))), .sc (.int .u8 (IntKind.u8.wrap (JA IntKind.i64 (zi (s.extract 0 (JK (zi s.size) 65535).toNat).size) 8)))], .ro 5 false false (List.take (s.extract 0 (JK (zi s.size) 65535).toNat).size (Jg (s.extract 0 (JK (zi s.size) 65535).toNat)))])]) else none else none else none
theorem JBL (f : Nat) (b_z b_f : Bool) (b : List PV) (s : ByteArray) (k : Res -> Option Res) : JM tau JwX Try.f92 (Try.f92.body.get!) Jjl [] 0 [.ro 5 b_z b_f b, .sc (.string s)] [] k = Jtl f b_z b_f b s k := by kernel_rfl
theorem JwY (f : Nat) : Je (Try.f92.body.get!) Jjl = [] := by kernel_rfl
theorem JwZ (f : Nat) : ∀ q ∈ Je (Try.f92.body.get!) Jjl, q.Ok tau Try.prog 0 := by
 rw [JwY f]; intro q hq; cases hq
theorem Jw0 : Try.prog.funcs[92]? = some Try.f92 := by kernel_rfl
theorem Jw1 : Try.f92.body = some (Try.f92.body.get!) := by kernel_rfl
theorem Jw2 : Try.prog.funcs[130]? = some Try.f130 := by kernel_rfl
theorem Jw3 : Try.f130.body = some (Try.f130.body.get!) := by kernel_rfl
theorem Jw4 : Enters Try.prog 130 := enters_of Jw2 (by kernel_rfl) Jw3
theorem JBM : Try.prog.funcs[92]? = some Try.f92 := by kernel_rfl
theorem JBN : Try.f92.body = some (Try.f92.body.get!) := by kernel_rfl
theorem Jw5 : Enters Try.prog 92 := enters_of JBM (by kernel_rfl) JBN
def Jw6 : Fns := F0
theorem JoT : Jy tau Try.prog Jw6 := JE
def Jjm : An := (.seq .leaf (.seq (.seq .leaf (.cond (.seq .leaf .leaf) .leaf)) (.seq .leaf .leaf)))
def Jw7 (f : Nat) (s_z s_f : Bool) (s : List PV) (k : Res -> Option Res) : Option Res := bif s_z then k (Res.mk (.ro 5 true true []) [] []) else bif Jf (0 + s.length) 1 && true then k (Res.mk (.ow 5 16 [] 0 (0 + s.length) none) [] [.vec false 5 false s]) else none
theorem JBO (f : Nat) (s_z s_f : Bool) (s : List PV) (k : Res -> Option Res) : JM tau Jw6 Try.f76 (Try.f76.body.get!) Jjm [] 0 [.ro 5 s_z s_f s] [] k = Jw7 f s_z s_f s k := by kernel_rfl
theorem Jw8 (f : Nat) : Je (Try.f76.body.get!) Jjm = [] := by kernel_rfl
theorem Jw9 (f : Nat) : ∀ q ∈ Je (Try.f76.body.get!) Jjm, q.Ok tau Try.prog 0 := by
 rw [Jw8 f]; intro q hq; cases hq
theorem Jrt : Try.prog.funcs[76]? = some Try.f76 := by kernel_rfl
theorem Jru : Try.f76.body = some (Try.f76.body.get!) := by kernel_rfl
theorem Jrv : Enters Try.prog 76 := enters_of Jrt (by kernel_rfl) Jru
def JhI : List PV -> List Ent -> (Res -> Option Res) -> Option Res
 | [.ro 5 s_z s_f s], [], k => Jw7 0 s_z s_f s k
 | _, _, _ => none
def Jtm : Sig := { own := [], run := JhI }
theorem Jrw : Jh tau Try.prog 76 Jtm := JW Jr JoT Js Jrt Jru Jjm [] 0 [] JhI (Jw9 0) fun xs es k res hr => by
 unfold JhI at hr
 split at hr
 · exact ⟨rfl, 0, (JBO 0 _ _ _  _).trans hr⟩
 · cases hr
def F35 : Fns := JG 76 Jtm (F0)
theorem Jtn : Jy tau Try.prog F35 := (JE).add Jrw Jrv
def Jto : Nm := [(0, .any), (1, .any), (5, .own), (6, .any)]
def Jxa : An := (.seq .leaf (.seq .leaf (.seq .leaf (.seq .leaf (.seq (.seq .leaf (.seq .leaf (.cond .leaf .leaf))) (.seq .leaf .leaf))))))
def JoU : An := (.seq .leaf (.scope Jto Jxa))
def g35 (f : Nat) (b_z b_f : Bool) (b : List PV) (n : Int) (k : Res -> Option Res) : Option Res := bif b_z then k (Res.mk (.ro 5 false false [.sc (.int .u8 (IntKind.u8.wrap (JA IntKind.u64 (IntKind.u64.wrap n) (IntKind.i64.wrap (8 * 0))))), .sc (.int .u8 (IntKind.u8.wrap (JA IntKind.u64 (IntKind.u64.wrap n) (IntKind.i64.wrap (8 * IntKind.i64.wrap (0 + 1)))))), .sc (.int .u8 (IntKind.u8.wrap (JA IntKind.u64 (IntKind.u64.wrap n) (IntKind.i64.wrap (8 * IntKind.i64.wrap (IntKind.i64.wrap (0 + 1) + 1)))))), .sc (.int .u8 (IntKind.u8.wrap (JA IntKind.u64 (IntKind.u64.wrap n) (IntKind.i64.wrap (8 * IntKind.i64.wrap (IntKind.i64.wrap (IntKind.i64.wrap (0 + 1) + 1) + 1)))))), .sc (.int .u8 (IntKind.u8.wrap (JA IntKind.u64 (IntKind.u64.wrap n) (IntKind.i64.wrap (8 * IntKind.i64.wrap (IntKind.i64.wrap (IntKind.i64.wrap (IntKind.i64.wrap (0 + 1) + 1) + 1) + 1)))))), .sc (.int .u8 (IntKind.u8.wrap (JA IntKind.u64 (IntKind.u64.wrap n) (IntKind.i64.wrap (8 * IntKind.i64.wrap (IntKind.i64.wrap (IntKind.i64.wrap (IntKind.i64.wrap (IntKind.i64.wrap (0 + 1) + 1) + 1) + 1) + 1)))))), .sc (.int .u8 (IntKind.u8.wrap (JA IntKind.u64 (IntKind.u64.wrap n) (IntKind.i64.wrap (8 * IntKind.i64.wrap (IntKind.i64.wrap (IntKind.i64.wrap (IntKind.i64.wrap (IntKind.i64.wrap (IntKind.i64.wrap (0 + 1) + 1) + 1) + 1) + 1) + 1)))))), .sc (.int .u8 (IntKind.u8.wrap (JA IntKind.u64 (IntKind.u64.wrap n) (IntKind.i64.wrap (8 * IntKind.i64.wrap (IntKind.i64.wrap (IntKind.i64.wrap (IntKind.i64.wrap (IntKind.i64.wrap (IntKind.i64.wrap (IntKind.i64.wrap (0 + 1) + 1) + 1) + 1) + 1) + 1) + 1))))))]) [] []) else bif Jf (0 + b.length) 1 && true then bif Jf (0 + b.length + 1) 1 && true then bif Jf (0 + b.length + 1 + 1) 1 && true then bif Jf (0 + b.length + 1 + 1 + 1) 1 && true then bif Jf (0 + b.length + 1 + 1 + 1 + 1) 1 && true then bif Jf (0 + b.length + 1 + 1 + 1 + 1 + 1) 1 && true then bif Jf (0 + b.length + 1 + 1 + 1 + 1 + 1 + 1) 1 && true then bif Jf (0 + b.length + 1 + 1 + 1 + 1 + 1 + 1 + 1) 1 && true then bif Jf (0 + b.length + 1 + 1 + 1 + 1 + 1 + 1 + 1 + 1) 1 && true then bif Jf (0 + (List.take (0 + b.length + 1 + 1 + 1 + 1 + 1 + 1 + 1 + 1) (List.take (0 + b.length + 1 + 1 + 1 + 1 + 1 + 1 + 1) (List.take (0 + b.length + 1 + 1 + 1 + 1 + 1 + 1) (List.take (0 + b.length + 1 + 1 + 1 + 1 + 1) (List.take (0 + b.length + 1 + 1 + 1 + 1) (List.take (0 + b.length + 1 + 1 + 1) (List.take (0 + b.length + 1 + 1) (List.take (0 + b.length + 1) (List.take (0 + b.length) b ++ [.sc (.int .u8 (IntKind.u8.wrap (JA IntKind.u64 (IntKind.u64.wrap n) (IntKind.i64.wrap (8 * 0)))))]) ++ [.sc (.int .u8 (IntKind.u8.wrap (JA IntKind.u64 (IntKind.u64.wrap n) (IntKind.i64.wrap (8 * IntKind.i64.wrap (0 + 1))))))]) ++ [.sc (.int .u8 (IntKind.u8.wrap (JA IntKind.u64 (IntKind.u64.wrap n) (IntKind.i64.wrap (8 * IntKind.i64.wrap (IntKind.i64.wrap (0 + 1) + 1))))))]) ++ [.sc (.int .u8 (IntKind.u8.wrap (JA IntKind.u64 (IntKind.u64.wrap n) (IntKind.i64.wrap (8 * IntKind.i64.wrap (IntKind.i64.wrap (IntKind.i64.wrap (0 + 1) + 1) + 1))))))]) ++ [.sc (.int .u8 (IntKind.u8.wrap (JA IntKind.u64 (IntKind.u64.wrap n) (IntKind.i64.wrap (8 * IntKind.i64.wrap (IntKind.i64.wrap (IntKind.i64.wrap (IntKind.i64.wrap (0 + 1) + 1) + 1) + 1))))))]) ++ [.sc (.int .u8 (IntKind.u8.wrap (JA IntKind.u64 (IntKind.u64.wrap n) (IntKind.i64.wrap (8 * IntKind.i64.wrap (IntKind.i64.wrap (IntKind.i64.wrap (IntKind.i64.wrap (IntKind.i64.wrap (0 + 1) + 1) + 1) + 1) + 1))))))]) ++ [.sc (.int .u8 (IntKind.u8.wrap (JA IntKind.u64 (IntKind.u64.wrap n) (IntKind.i64.wrap (8 * IntKind.i64.wrap (IntKind.i64.wrap (IntKind.i64.wrap (IntKind.i64.wrap (IntKind.i64.wrap (IntKind.i64.wrap (0 + 1) + 1) + 1) + 1) + 1) + 1))))))]) ++ [.sc (.int .u8 (IntKind.u8.wrap (JA IntKind.u64 (IntKind.u64.wrap n) (IntKind.i64.wrap (8 * IntKind.i64.wrap (IntKind.i64.wrap (IntKind.i64.wrap (IntKind.i64.wrap (IntKind.i64.wrap (IntKind.i64.wrap (IntKind.i64.wrap (0 + 1) + 1) + 1) + 1) + 1) + 1) + 1))))))])).length) 1 && true then k (Res.mk (.ro 5 false false (List.take (0 + (List.take (0 + b.length + 1 + 1 + 1 + 1 + 1 + 1 + 1 + 1) (List.take (0 + b.length + 1 + 1 + 1 + 1 + 1 + 1 + 1) (List.take (0 + b.length + 1 + 1 + 1 + 1 + 1 + 1) (List.take (0 + b.length + 1 + 1 + 1 + 1 + 1) (List.take (0 + b.length + 1 + 1 + 1 + 1) (List.take (0 + b.length + 1 + 1 + 1) (List.take (0 + b.length + 1 + 1) (List.take (0 + b.length + 1) (List.take (0 + b.length) b ++ [.sc (.int .u8 (IntKind.u8.wrap (JA IntKind.u64 (IntKind.u64.wrap n) (IntKind.i64.wrap (8 * 0)))))]) ++ [.sc (.int .u8 (IntKind.u8.wrap (JA IntKind.u64 (IntKind.u64.wrap n) (IntKind.i64.wrap (8 * IntKind.i64.wrap (0 + 1))))))]) ++ [.sc (.int .u8 (IntKind.u8.wrap (JA IntKind.u64 (IntKind.u64.wrap n) (IntKind.i64.wrap (8 * IntKind.i64.wrap (IntKind.i64.wrap (0 + 1) + 1))))))]) ++ [.sc (.int .u8 (IntKind.u8.wrap (JA IntKind.u64 (IntKind.u64.wrap n) (IntKind.i64.wrap (8 * IntKind.i64.wrap (IntKind.i64.wrap (IntKind.i64.wrap (0 + 1) + 1) + 1))))))]) ++ [.sc (.int .u8 (IntKind.u8.wrap (JA IntKind.u64 (IntKind.u64.wrap n) (IntKind.i64.wrap (8 * IntKind.i64.wrap (IntKind.i64.wrap (IntKind.i64.wrap (IntKind.i64.wrap (0 + 1) + 1) + 1) + 1))))))]) ++ [.sc (.int .u8 (IntKind.u8.wrap (JA IntKind.u64 (IntKind.u64.wrap n) (IntKind.i64.wrap (8 * IntKind.i64.wrap (IntKind.i64.wrap (IntKind.i64.wrap (IntKind.i64.wrap (IntKind.i64.wrap (0 + 1) + 1) + 1) + 1) + 1))))))]) ++ [.sc (.int .u8 (IntKind.u8.wrap (JA IntKind.u64 (IntKind.u64.wrap n) (IntKind.i64.wrap (8 * IntKind.i64.wrap (IntKind.i64.wrap (IntKind.i64.wrap (IntKind.i64.wrap (IntKind.i64.wrap (IntKind.i64.wrap (0 + 1) + 1) + 1) + 1) + 1) + 1))))))]) ++ [.sc (.int .u8 (IntKind.u8.wrap (JA IntKind.u64 (IntKind.u64.wrap n) (IntKind.i64.wrap (8 * IntKind.i64.wrap (IntKind.i64.wrap (IntKind.i64.wrap (IntKind.i64.wrap (IntKind.i64.wrap (IntKind.i64.wrap (IntKind.i64.wrap (0 + 1) + 1) + 1) + 1) + 1) + 1) + 1))))))])).length) (List.take (0 + b.length + 1 + 1 + 1 + 1 + 1 + 1 + 1 + 1) (List.take (0 + b.length + 1 + 1 + 1 + 1 + 1 + 1 + 1) (List.take (0 + b.length + 1 + 1 + 1 + 1 + 1 + 1) (List.take (0 + b.length + 1 + 1 + 1 + 1 + 1) (List.take (0 + b.length + 1 + 1 + 1 + 1) (List.take (0 + b.length + 1 + 1 + 1) (List.take (0 + b.length + 1 + 1) (List.take (0 + b.length + 1) (List.take (0 + b.length) b ++ [.sc (.int .u8 (IntKind.u8.wrap (JA IntKind.u64 (IntKind.u64.wrap n) (IntKind.i64.wrap (8 * 0)))))]) ++ [.sc (.int .u8 (IntKind.u8.wrap (JA IntKind.u64 (IntKind.u64.wrap n) (IntKind.i64.wrap (8 * IntKind.i64.wrap (0 + 1))))))]) ++ [.sc (.int .u8 (IntKind.u8.wrap (JA IntKind.u64 (IntKind.u64.wrap n) (IntKind.i64.wrap (8 * IntKind.i64.wrap (IntKind.i64.wrap (0 + 1) + 1))))))]) ++ [.sc (.int .u8 (IntKind.u8.wrap (JA IntKind.u64 (IntKind.u64.wrap n) (IntKind.i64.wrap (8 * IntKind.i64.wrap (IntKind.i64.wrap (IntKind.i64.wrap (0 + 1) + 1) + 1))))))]) ++ [.sc (.int .u8 (IntKind.u8.wrap (JA IntKind.u64 (IntKind.u64.wrap n) (IntKind.i64.wrap (8 * IntKind.i64.wrap (IntKind.i64.wrap (IntKind.i64.wrap (IntKind.i64.wrap (0 + 1) + 1) + 1) + 1))))))]) ++ [.sc (.int .u8 (IntKind.u8.wrap (JA IntKind.u64 (IntKind.u64.wrap n) (IntKind.i64.wrap (8 * IntKind.i64.wrap (IntKind.i64.wrap (IntKind.i64.wrap (IntKind.i64.wrap (IntKind.i64.wrap (0 + 1) + 1) + 1) + 1) + 1))))))]) ++ [.sc (.int .u8 (IntKind.u8.wrap (JA IntKind.u64 (IntKind.u64.wrap n) (IntKind.i64.wrap (8 * IntKind.i64.wrap (IntKind.i64.wrap (IntKind.i64.wrap (IntKind.i64.wrap (IntKind.i64.wrap (IntKind.i64.wrap (0 + 1) + 1) + 1) + 1) + 1) + 1))))))]) ++ [.sc (.int .u8 (IntKind.u8.wrap (JA IntKind.u64 (IntKind.u64.wrap n) (IntKind.i64.wrap (8 * IntKind.i64.wrap (IntKind.i64.wrap (IntKind.i64.wrap (IntKind.i64.wrap (IntKind.i64.wrap (IntKind.i64.wrap (IntKind.i64.wrap (0 + 1) + 1) + 1) + 1) + 1) + 1) + 1))))))])))) [] []) else none else none else none else none else none else none else none else none else none else none
theorem e35 (f : Nat) (b_z b_f : Bool) (b : List PV) (n : Int) (k : Res -> Option Res) : JM tau F35 Try.f35 (Try.f35.body.get!) JoU [.ro] 12 [.ro 5 b_z b_f b, .sc (.int .i64 n)] [] k = g35 f b_z b_f b n k := by kernel_rfl
theorem JBP (f : Nat) : Je (Try.f35.body.get!) JoU = [] := by kernel_rfl
theorem JBQ (f : Nat) : ∀ q ∈ Je (Try.f35.body.get!) JoU, q.Ok tau Try.prog 0 := by
 rw [JBP f]; intro q hq; cases hq
theorem Jxb : Try.prog.funcs[35]? = some Try.f35 := by kernel_rfl
theorem Jxc : Try.f35.body = some (Try.f35.body.get!) := by kernel_rfl
theorem Jtp : Enters Try.prog 35 := enters_of Jxb (by kernel_rfl) Jxc
def Jxd : Fns := F0
theorem JoV : Jy tau Try.prog Jxd := JE
def Jjn : An := (.seq .leaf (.seq .leaf .leaf))
def JBR (f : Nat) (n : Int) (k : Res -> Option Res) : Option Res := k (Res.mk (.ow 5 16 [] 0 1 none) [] [.vec false 5 false [.sc (.int .u8 (IntKind.u8.wrap n))]])
theorem JBS (f : Nat) (n : Int) (k : Res -> Option Res) : JM tau Jxd Try.f105 (Try.f105.body.get!) Jjn [] 0 [.ro 5 true true [], .sc (.int .i64 n)] [] k = JBR f n k := by kernel_rfl
theorem Jxe (f : Nat) : Je (Try.f105.body.get!) Jjn = [] := by kernel_rfl
theorem Jxf (f : Nat) : ∀ q ∈ Je (Try.f105.body.get!) Jjn, q.Ok tau Try.prog 0 := by
 rw [Jxe f]; intro q hq; cases hq
theorem Jrx : Try.prog.funcs[105]? = some Try.f105 := by kernel_rfl
theorem Jry : Try.f105.body = some (Try.f105.body.get!) := by kernel_rfl
theorem Jrz : Enters Try.prog 105 := enters_of Jrx (by kernel_rfl) Jry
def JrA : Fns := F0
theorem Jl2 : Jy tau Try.prog JrA := JE
def Jez : An := (.seq .leaf (.seq .leaf .leaf))
def Jl3 (f : Nat) (nl : Bool) (l : List PV) (m : Nat) (n : Int) (k : Res -> Option Res) : Option Res := bif Jf (m + 1) 1 && true then k (Res.mk (.ow 5 16 [] 0 (m + 1) none) [.dead] [.vec false 5 (nl && false) (List.take m l ++ [.sc (.int .u8 (IntKind.u8.wrap n))])]) else none
theorem Jxg (f : Nat) (nl : Bool) (l : List PV) (m : Nat) (n : Int) (k : Res -> Option Res) : JM tau JrA Try.f105 (Try.f105.body.get!) Jez [] 0 [.ow 5 0 [] 0 m none, .sc (.int .i64 n)] [.vec false 5 nl l] k = Jl3 f nl l m n k := by kernel_rfl
theorem Jtq (f : Nat) : Je (Try.f105.body.get!) Jez = [] := by kernel_rfl
theorem Jtr (f : Nat) : ∀ q ∈ Je (Try.f105.body.get!) Jez, q.Ok tau Try.prog 1 := by
 rw [Jtq f]; intro q hq; cases hq
theorem Jts : Try.prog.funcs[105]? = some Try.f105 := by kernel_rfl
theorem Jtt : Try.f105.body = some (Try.f105.body.get!) := by kernel_rfl
def F53 : Fns := F0
theorem Jtu : Jy tau Try.prog F53 := JE
def Jtv : Nm := [(0, .own), (1, .any), (5, .any)]
def Jxh : An := (.seq (.seq .leaf (.cond .leaf .leaf)) (.seq (.block none .leaf) .leaf))
def JoW : An := (.seq .leaf (.seq (.seq .leaf (.block none (.loop Jtv Jxh))) (.seq .leaf .leaf)))
def g53 (f : Nat) (n : Int) (k : Res -> Option Res) : Option Res := k (Res.mk (.ow 5 16 [] 0 8 none) [] [.vec false 5 false [.sc (.int .u8 (IntKind.u8.wrap (JA IntKind.u64 (IntKind.u64.wrap n) (IntKind.u64.wrap (8 * IntKind.u64.wrap 0))))), .sc (.int .u8 (IntKind.u8.wrap (JA IntKind.u64 (IntKind.u64.wrap n) (IntKind.u64.wrap (8 * IntKind.u64.wrap (IntKind.i64.wrap (0 + 1))))))), .sc (.int .u8 (IntKind.u8.wrap (JA IntKind.u64 (IntKind.u64.wrap n) (IntKind.u64.wrap (8 * IntKind.u64.wrap (IntKind.i64.wrap (IntKind.i64.wrap (0 + 1) + 1))))))), .sc (.int .u8 (IntKind.u8.wrap (JA IntKind.u64 (IntKind.u64.wrap n) (IntKind.u64.wrap (8 * IntKind.u64.wrap (IntKind.i64.wrap (IntKind.i64.wrap (IntKind.i64.wrap (0 + 1) + 1) + 1))))))), .sc (.int .u8 (IntKind.u8.wrap (JA IntKind.u64 (IntKind.u64.wrap n) (IntKind.u64.wrap (8 * IntKind.u64.wrap (IntKind.i64.wrap (IntKind.i64.wrap (IntKind.i64.wrap (IntKind.i64.wrap (0 + 1) + 1) + 1) + 1))))))), .sc (.int .u8 (IntKind.u8.wrap (JA IntKind.u64 (IntKind.u64.wrap n) (IntKind.u64.wrap (8 * IntKind.u64.wrap (IntKind.i64.wrap (IntKind.i64.wrap (IntKind.i64.wrap (IntKind.i64.wrap (IntKind.i64.wrap (0 + 1) + 1) + 1) + 1) + 1))))))), .sc (.int .u8 (IntKind.u8.wrap (JA IntKind.u64 (IntKind.u64.wrap n) (IntKind.u64.wrap (8 * IntKind.u64.wrap (IntKind.i64.wrap (IntKind.i64.wrap (IntKind.i64.wrap (IntKind.i64.wrap (IntKind.i64.wrap (IntKind.i64.wrap (0 + 1) + 1) + 1) + 1) + 1) + 1))))))), .sc (.int .u8 (IntKind.u8.wrap (JA IntKind.u64 (IntKind.u64.wrap n) (IntKind.u64.wrap (8 * IntKind.u64.wrap (IntKind.i64.wrap (IntKind.i64.wrap (IntKind.i64.wrap (IntKind.i64.wrap (IntKind.i64.wrap (IntKind.i64.wrap (IntKind.i64.wrap (0 + 1) + 1) + 1) + 1) + 1) + 1) + 1)))))))]])
theorem e53 (f : Nat) (n : Int) (k : Res -> Option Res) : JM tau F53 Try.f53 (Try.f53.body.get!) JoW [] 12 [.ro 5 true true [], .sc (.int .i64 n)] [] k = g53 f n k := by kernel_rfl
theorem JBT (f : Nat) : Je (Try.f53.body.get!) JoW = [] := by kernel_rfl
theorem JBU (f : Nat) : ∀ q ∈ Je (Try.f53.body.get!) JoW, q.Ok tau Try.prog 0 := by
 rw [JBT f]; intro q hq; cases hq
theorem Jxi : Try.prog.funcs[53]? = some Try.f53 := by kernel_rfl
theorem Jxj : Try.f53.body = some (Try.f53.body.get!) := by kernel_rfl
theorem JoX : Enters Try.prog 53 := enters_of Jxi (by kernel_rfl) Jxj
def Jxk : Fns := F0
theorem JoY : Jy tau Try.prog Jxk := JE
def JoZ : Nm := [(0, .own), (1, .any), (5, .any)]
def Jtw : An := (.seq (.seq .leaf (.cond .leaf .leaf)) (.seq (.block none .leaf) .leaf))
def Jjo : An := (.seq .leaf (.seq (.seq .leaf (.block none (.loop JoZ Jtw))) (.seq .leaf .leaf)))
def Jtx (f : Nat) (nl : Bool) (l : List PV) (m : Nat) (n : Int) (k : Res -> Option Res) : Option Res := bif Jf (m + 1) 1 && true then bif Jf (m + 1 + 1) 1 && true then bif Jf (m + 1 + 1 + 1) 1 && true then bif Jf (m + 1 + 1 + 1 + 1) 1 && true then bif Jf (m + 1 + 1 + 1 + 1 + 1) 1 && true then bif Jf (m + 1 + 1 + 1 + 1 + 1 + 1) 1 && true then bif Jf (m + 1 + 1 + 1 + 1 + 1 + 1 + 1) 1 && true then bif Jf (m + 1 + 1 + 1 + 1 + 1 + 1 + 1 + 1) 1 && true then k (Res.mk (.ow 5 16 [] 0 (m + 1 + 1 + 1 + 1 + 1 + 1 + 1 + 1) none) [.dead] [.vec false 5 (nl && false && false && false && false && false && false && false && false) (List.take (m + 1 + 1 + 1 + 1 + 1 + 1 + 1) (List.take (m + 1 + 1 + 1 + 1 + 1 + 1) (List.take (m + 1 + 1 + 1 + 1 + 1) (List.take (m + 1 + 1 + 1 + 1) (List.take (m + 1 + 1 + 1) (List.take (m + 1 + 1) (List.take (m + 1) (List.take m l ++ [.sc (.int .u8 (IntKind.u8.wrap (JA IntKind.u64 (IntKind.u64.wrap n) (IntKind.u64.wrap (8 * IntKind.u64.wrap 0)))))]) ++ [.sc (.int .u8 (IntKind.u8.wrap (JA IntKind.u64 (IntKind.u64.wrap n) (IntKind.u64.wrap (8 * IntKind.u64.wrap (IntKind.i64.wrap (0 + 1)))))))]) ++ [.sc (.int .u8 (IntKind.u8.wrap (JA IntKind.u64 (IntKind.u64.wrap n) (IntKind.u64.wrap (8 * IntKind.u64.wrap (IntKind.i64.wrap (IntKind.i64.wrap (0 + 1) + 1)))))))]) ++ [.sc (.int .u8 (IntKind.u8.wrap (JA IntKind.u64 (IntKind.u64.wrap n) (IntKind.u64.wrap (8 * IntKind.u64.wrap (IntKind.i64.wrap (IntKind.i64.wrap (IntKind.i64.wrap (0 + 1) + 1) + 1)))))))]) ++ [.sc (.int .u8 (IntKind.u8.wrap (JA IntKind.u64 (IntKind.u64.wrap n) (IntKind.u64.wrap (8 * IntKind.u64.wrap (IntKind.i64.wrap (IntKind.i64.wrap (IntKind.i64.wrap (IntKind.i64.wrap (0 + 1) + 1) + 1) + 1)))))))]) ++ [.sc (.int .u8 (IntKind.u8.wrap (JA IntKind.u64 (IntKind.u64.wrap n) (IntKind.u64.wrap (8 * IntKind.u64.wrap (IntKind.i64.wrap (IntKind.i64.wrap (IntKind.i64.wrap (IntKind.i64.wrap (IntKind.i64.wrap (0 + 1) + 1) + 1) + 1) + 1)))))))]) ++ [.sc (.int .u8 (IntKind.u8.wrap (JA IntKind.u64 (IntKind.u64.wrap n) (IntKind.u64.wrap (8 * IntKind.u64.wrap (IntKind.i64.wrap (IntKind.i64.wrap (IntKind.i64.wrap (IntKind.i64.wrap (IntKind.i64.wrap (IntKind.i64.wrap (0 + 1) + 1) + 1) + 1) + 1) + 1)))))))]) ++ [.sc (.int .u8 (IntKind.u8.wrap (JA IntKind.u64 (IntKind.u64.wrap n) (IntKind.u64.wrap (8 * IntKind.u64.wrap (IntKind.i64.wrap (IntKind.i64.wrap (IntKind.i64.wrap (IntKind.i64.wrap (IntKind.i64.wrap (IntKind.i64.wrap (IntKind.i64.wrap (0 + 1) + 1) + 1) + 1) + 1) + 1) + 1)))))))])]) else none else none else none else none else none else none else none else none
theorem JBV (f : Nat) (nl : Bool) (l : List PV) (m : Nat) (n : Int) (k : Res -> Option Res) : JM tau Jxk Try.f53 (Try.f53.body.get!) Jjo [] 12 [.ow 5 0 [] 0 m none, .sc (.int .i64 n)] [.vec false 5 nl l] k = Jtx f nl l m n k := by kernel_rfl
theorem Jxl (f : Nat) : Je (Try.f53.body.get!) Jjo = [] := by kernel_rfl
theorem Jxm (f : Nat) : ∀ q ∈ Je (Try.f53.body.get!) Jjo, q.Ok tau Try.prog 1 := by
 rw [Jxl f]; intro q hq; cases hq
theorem Jxn : Try.prog.funcs[53]? = some Try.f53 := by kernel_rfl
theorem Jxo : Try.f53.body = some (Try.f53.body.get!) := by kernel_rfl
def Jxp : Fns := F0
theorem Jo0 : Jy tau Try.prog Jxp := JE
def Jjp : An := (.seq .leaf (.seq (.seq .leaf (.cond .leaf .leaf)) (.seq .leaf .leaf)))
def Jty (f : Nat) (nl : Bool) (l : List PV) (m : Nat) (s : ByteArray) (k : Res -> Option Res) : Option Res := bif decide (zi s.size > 65535) then bif decide (65535 <= s.size) && true then bif Jf (m + 2) 1 && true then bif Jf (m + 2 + (Jg (s.extract 0 65535)).length) 1 && true then k (Res.mk (.ow 5 16 [] 0 (m + 2 + (Jg (s.extract 0 65535)).length) none) [.dead] [.vec false 5 (nl && false && (Jg (s.extract 0 65535)).isEmpty) (List.take (m + 2) (List.take m l ++ [.sc (.int .u8 (IntKind.u8.wrap (zi (s.extract 0 65535).size))), .sc (.int .u8 (IntKind.u8.wrap (JA IntKind.i64 (zi (s.extract 0 65535).size) 8)))]) ++ Jg (s.extract 0 65535))]) else none else none else none else bif Jf (m + 2) 1 && true then bif Jf (m + 2 + (Jg s).length) 1 && true then k (Res.mk (.ow 5 16 [] 0 (m + 2 + (Jg s).length) none) [.dead] [.vec false 5 (nl && false && (Jg s).isEmpty) (List.take (m + 2) (List.take m l ++ [.sc (.int .u8 (IntKind.u8.wrap (zi s.size))), .sc (.int .u8 (IntKind.u8.wrap (JA IntKind.i64 (zi s.size) 8)))]) ++ Jg s)]) else none else none
theorem JBW (f : Nat) (nl : Bool) (l : List PV) (m : Nat) (s : ByteArray) (k : Res -> Option Res) : JM tau Jxp Try.f97 (Try.f97.body.get!) Jjp [] 0 [.ow 5 0 [] 0 m none, .sc (.string s)] [.vec false 5 nl l] k = Jty f nl l m s k := by kernel_rfl
theorem Jxq (f : Nat) : Je (Try.f97.body.get!) Jjp = [] := by kernel_rfl
theorem Jxr (f : Nat) : ∀ q ∈ Je (Try.f97.body.get!) Jjp, q.Ok tau Try.prog 1 := by
 rw [Jxq f]; intro q hq; cases hq
theorem JrB : Try.prog.funcs[97]? = some Try.f97 := by kernel_rfl
theorem JrC : Try.f97.body = some (Try.f97.body.get!) := by kernel_rfl
theorem Jxs : Enters Try.prog 97 := enters_of JrB (by kernel_rfl) JrC
-- FN code.Byte | code.Text | code.Int | ref1.Byte | ref1.Int | ref1.Text
def ib (n i : Int) : Int := IntKind.u8.wrap (JA .u64 (IntKind.u64.wrap n) (8 * i))
def Jjq (n : Int) : List Int := [ib n 0, ib n 1, ib n 2, ib n 3, ib n 4, ib n 5, ib n 6, ib n 7]
def JT : Int -> List Int := hid Jjq
theorem WG (n : Int) : JT n = Jjq n := by rw [JT, hid_eq]
@[simp] theorem Wr (n : Int) : (JT n).length = 8 := by rw [WG]; rfl
/-- a text's bytes -/
def Jo1 (s : ByteArray) : List Int := s.data.toList.map fun b => (b.toNat : Int)
def bsI : ByteArray -> List Int := hid Jo1
theorem JhJ (s : ByteArray) : bsI s = Jo1 s := by rw [bsI, hid_eq]
theorem Wd (s : ByteArray) : Jg s = pu .u8 (bsI s) := by rw [JhJ]; simp [Jg, pu, Jo1]
@[simp] theorem Vo (s : ByteArray) : (bsI s).length = s.size := by rw [JhJ]; simp [Jo1]
theorem Jtz (s : ByteArray) : ∀ x ∈ bsI s, 0 <= x /\ x < 256 := by
 intro x hx
 rw [JhJ] at hx
 obtain ⟨b, _, rfl⟩ := List.mem_map.1 hx
 have := b.toNat_lt
 omega
def Zb (s : ByteArray) : List Int := [IntKind.u8.wrap (zi s.size), IntKind.u8.wrap (JA .i64 (zi s.size) 8)] ++ bsI s
def Qn : ByteArray -> List Int := hid Zb
theorem Xc (s : ByteArray) : Qn s = Zb s := by rw [Qn, hid_eq]
@[simp] theorem Ga (s : ByteArray) : (Qn s).length = s.size + 2 := by rw [Xc]; simp [Zb]
theorem Yd (x : Int) : 0 <= IntKind.u8.wrap x /\ IntKind.u8.wrap x < 256 := by rw [W9]; omega
theorem Ye (n : Int) : ∀ x ∈ JT n, 0 <= x /\ x < 256 := by
 rw [WG]; intro x hx
 simp only [Jjq, List.mem_cons, List.not_mem_nil, or_false] at hx
 rcases hx with h | h | h | h | h | h | h | h <;> (rw [h]; exact Yd _)
theorem Jf1 (s : ByteArray) : ∀ x ∈ Qn s, 0 <= x /\ x < 256 := by
 rw [Xc]; intro x hx
 rcases List.mem_append.1 hx with hx | hx
 · simp only [List.mem_cons, List.not_mem_nil, or_false] at hx
   rcases hx with h | h <;> (rw [h]; exact Yd _)
 · exact Jtz s x hx
theorem Jo2 (f : Bool) (b : List PV) (n : Int) (k : Res -> Option Res) : g35 0 true f b n k = k ⟨.ro 5 false false (pu .u8 (JT n)), [], []⟩ := by
 rw [WG]; kernel_rfl
theorem Jxt (f : Bool) (b : List PV) (hb : b.length <= 1000000000) (n : Int) (k : Res -> Option Res) : g35 0 false f b n k = k ⟨.ro 5 false false (b ++ pu .u8 (JT n)), [], []⟩ := by
 rw [WG]
 unfold g35
 refine (Jj rfl).trans ?_
 repeat (refine (Ja (by simp [Jf]; omega)).trans ?_)
 repeat rw [List.take_of_length_le (by simp <;> omega)]
 simp only [List.nil_append, List.append_assoc]
 rfl
def JeA : List PV -> List Ent -> (Res -> Option Res) -> Option Res
 | [.ro 5 z f b, .sc (.int .i64 n)], [], k => bif slB z b then k ⟨.ro 5 false false (b ++ pu .u8 (JT n)), [], []⟩ else none
 | _, _, _ => none
def Jxu : Sig := { own := [], run := JeA }
theorem JrD : Jh tau Try.prog 35 Jxu := Jh.mk' fun xs es k res hl hr => by
 change JeA xs es k = some res at hr
 unfold JeA at hr
 split at hr
 · rename_i z f b n
   obtain ⟨hc, hr2⟩ := JI hr
   clear hr
   obtain ⟨h1, h2⟩ := WA.1 hc
   have hg : g35 0 z f b n k = some res := by
    cases z with
    | true => obtain rfl := h1 rfl; rw [Jo2]; exact hr2
    | false => rw [Jxt f b h2]; exact hr2
   exact Qk Jr Jtn Js Jxb Jxc JoU [.ro] 0 12 (JBQ 0) hl rfl ((e35 0 z f b n k).trans hg)
 · cases hr
theorem Jf2 (s : ByteArray) : s.extract 0 s.size = s := by
 apply ByteArray.ext
 simp [ByteArray.data_extract]
def Gb : List PV -> List Ent -> (Res -> Option Res) -> Option Res
 | [.ro 5 true true [], .sc (.int .i64 n)], [], k => k ⟨.ow 5 16 [] 0 1 none, [], [.vec false 5 false (pu .u8 [IntKind.u8.wrap n])]⟩
 | [.ow 5 0 [] 0 m none, .sc (.int .i64 n)], [.vec false 5 nl l], k => bif Nat.beq m l.length && Nat.ble l.length 1000000000 then k ⟨.ow 5 16 [] 0 (m + 1) none, [.dead], [.vec false 5 false (l ++ pu .u8 [IntKind.u8.wrap n])]⟩ else none
 | _, _, _ => none
def Jxv : Sig := { own := [true], run := Gb }
theorem JtA : Jh tau Try.prog 105 Jxv := Jh.mk' fun xs es k res hl hr => by
 change Gb xs es k = some res at hr
 unfold Gb at hr
 split at hr
 · rename_i n
   exact Qk Jr JoV Js Jrx Jry Jjn [] 0 0 (Jxf 0) hl rfl ((JBS 0 n k).trans hr)
 · rename_i m n nl l
   obtain ⟨hc, hr⟩ := JI hr
   rw [Bool.and_eq_true, Nat.beq_eq, Nat.ble_eq] at hc
   obtain ⟨rfl, hc⟩ := hc
   have hg : Jl3 0 nl l l.length n k = some res := by
    unfold Jl3
    rw [Ja (by simp [Jf]; omega), List.take_length, Bool.and_false]
    exact hr
   exact Qk Jr Jl2 Js Jts Jtt Jez [] 1 0 (Jtr 0) hl rfl ((Jxg 0 nl l l.length n k).trans hg)
 · cases hr
def JbZ : List PV -> List Ent -> (Res -> Option Res) -> Option Res
 | [.ro 5 true true [], .sc (.int .i64 n)], [], k => k ⟨.ow 5 16 [] 0 8 none, [], [.vec false 5 false (pu .u8 (JT n))]⟩
 | [.ow 5 0 [] 0 m none, .sc (.int .i64 n)], [.vec false 5 nl l], k => bif Nat.beq m l.length && Nat.ble l.length 1000000000 then k ⟨.ow 5 16 [] 0 (m + 8) none, [.dead], [.vec false 5 false (l ++ pu .u8 (JT n))]⟩ else none
 | _, _, _ => none
def JBX : Sig := { own := [true], run := JbZ }
theorem Jo3 (n : Int) (k : Res -> Option Res) : g53 0 n k = k ⟨.ow 5 16 [] 0 8 none, [], [.vec false 5 false (pu .u8 (JT n))]⟩ := by
 rw [WG]; kernel_rfl
theorem Jo4 (nl : Bool) (l : List PV) (hl : l.length <= 1000000000) (n : Int) (k : Res -> Option Res) : Jtx 0 nl l l.length n k = k ⟨.ow 5 16 [] 0 (l.length + 8) none, [.dead], [.vec false 5 false (l ++ pu .u8 (JT n))]⟩ := by
 rw [WG]
 unfold Jtx
 repeat (refine (Ja (by simp [Jf]; omega)).trans ?_)
 repeat rw [List.take_of_length_le (by simp <;> omega)]
 simp only [Bool.and_false, List.append_assoc]
 rfl
theorem JrE : Jh tau Try.prog 53 JBX := Jh.mk' fun xs es k res hl hr => by
 change JbZ xs es k = some res at hr
 unfold JbZ at hr
 split at hr
 · rename_i n
   exact Qk Jr Jtu Js Jxi Jxj JoW [] 0 12 (JBU 0) hl rfl ((e53 0 n k).trans ((Jo3 n k).trans hr))
 · rename_i m n nl l
   obtain ⟨hc, hr⟩ := JI hr
   rw [Bool.and_eq_true, Nat.beq_eq, Nat.ble_eq] at hc
   obtain ⟨rfl, hc⟩ := hc
   exact Qk Jr JoY Js Jxn Jxo Jjo [] 1 12 (Jxm 0) hl rfl ((JBV 0 nl l l.length n k).trans ((Jo4 nl l hc n k).trans hr))
 · cases hr
def Jb0 : List PV -> List Ent -> (Res -> Option Res) -> Option Res
 | [.ow 5 0 [] 0 m none, .sc (.string s)], [.vec false 5 nl l], k => bif Nat.beq m l.length && Nat.ble l.length 1000000000 && Nat.ble s.size 65535 then k ⟨.ow 5 16 [] 0 (m + (s.size + 2)) none, [.dead], [.vec false 5 false (l ++ pu .u8 (Qn s))]⟩ else none
 | _, _, _ => none
def JBY : Sig := { own := [true], run := Jb0 }
theorem Jxw : Jh tau Try.prog 97 JBY := Jh.mk' fun xs es k res hl hr => by
 change Jb0 xs es k = some res at hr
 unfold Jb0 at hr
 split at hr
 · rename_i m s nl l
   obtain ⟨hc, hr⟩ := JI hr
   rw [Bool.and_eq_true, Bool.and_eq_true, Nat.beq_eq, Nat.ble_eq, Nat.ble_eq] at hc
   obtain ⟨⟨rfl, hc⟩, hs⟩ := hc
   have hg : Jty 0 nl l l.length s k = some res := by
    unfold Jty
    have hob : (Jg s).length = s.size := by rw [Wd]; simp
    rw [Jj (by simp only [zi, decide_eq_false_iff_not]; omega), Ja (by simp [Jf]; omega), Ja (by simp [Jf, hob]; omega), List.take_length, List.take_of_length_le (by simp), hob, Bool.and_false, Bool.false_and]
    rw [Xc, Zb] at hr
    rw [Wd, show l.length + 2 + s.size = l.length + (s.size + 2) from by omega]
    simpa [pu] using hr
   exact Qk Jr Jo0 Js JrB JrC Jjp [] 1 0 (Jxr 0) hl rfl ((JBW 0 nl l l.length s k).trans hg)
 · cases hr
def Jbd : List PV -> List Ent -> (Res -> Option Res) -> Option Res
 | [.ro 5 z f b, .sc (.int .i64 n)], [], k => bif slB z b then k ⟨.ow 5 16 [] 0 (b.length + 1) none, [], [.vec false 5 false (b ++ pu .u8 [IntKind.u8.wrap n])]⟩ else none
 | _, _, _ => none
def Jxx : Sig := { own := [], run := Jbd }
theorem JtB : Jh tau Try.prog 130 Jxx := Jh.mk' fun xs es k res hl hr => by
 change Jbd xs es k = some res at hr
 unfold Jbd at hr
 split at hr
 · rename_i z f b n
   obtain ⟨hc, hr⟩ := JI hr
   obtain ⟨h1, h2⟩ := WA.1 hc
   have hg : Jl1 0 z f b n k = some res := by
    have hf : Jw [PV.ro 5 z f b, PV.ro 5 false false [PV.sc (Value.int IntKind.u8 (IntKind.u8.wrap n))]] = b ++ pu .u8 [IntKind.u8.wrap n] := by simp [PV.els, pu]
    have hf2 : Jw [PV.ro 5 z f b, PV.ro 5 false true [PV.sc (Value.int IntKind.u8 (IntKind.u8.wrap n))]] = b ++ pu .u8 [IntKind.u8.wrap n] := by simp [PV.els, pu]
    have he : (b ++ pu .u8 [IntKind.u8.wrap n]).isEmpty = false := by simp
    have hlen : (b ++ pu .u8 [IntKind.u8.wrap n]).length = b.length + 1 := by simp
    unfold Jl1
    simp only [hf, hf2, List.take_length, List.drop_zero, List.take_succ_cons, List.take_zero, he, hlen, Ent.nil]
    rw [Ja (by simp; omega)]
    exact hr
   exact Qk Jr Jl0 Js Jtj Jtk Jey [] 0 0 (Jti 0) hl rfl ((JwW 0 z f b n k).trans hg)
 · cases hr
def JeB : List PV -> List Ent -> (Res -> Option Res) -> Option Res
 | [.ro 5 z f b, .sc (.string s)], [], k => bif slB z b && Nat.ble s.size 65535 then k ⟨.ow 5 16 [] 0 (b.length + (s.size + 2)) none, [], [.vec false 5 false (b ++ pu .u8 (Qn s))]⟩ else none
 | _, _, _ => none
def JBZ : Sig := { own := [], run := JeB }
theorem Jxy : Jh tau Try.prog 92 JBZ := Jh.mk' fun xs es k res hl hr => by
 change JeB xs es k = some res at hr
 unfold JeB at hr
 split at hr
 · rename_i z f b s
   obtain ⟨hc, hr⟩ := JI hr
   rw [Bool.and_eq_true, Nat.ble_eq] at hc
   obtain ⟨h1, h2⟩ := WA.1 hc.1
   have hg : Jtl 0 z f b s k = some res := by
    have hm : JK (zi s.size) 65535 = (s.size : Int) := by unfold JK; rw [if_neg (by simp only [zi]; omega)]
    unfold Jtl
    simp only [hm, Int.toNat_natCast, Jf2]
    have hf : ∀ x y : Bool, Jw [PV.ro 5 z f b, PV.ro 5 false x [PV.sc (Value.int IntKind.u8 (IntKind.u8.wrap (zi s.size))), PV.sc (Value.int IntKind.u8 (IntKind.u8.wrap (JA IntKind.i64 (zi s.size) 8)))], PV.ro 5 false y (List.take s.size (Jg s))] = b ++ pu .u8 (Qn s) := by
     intro x y
     rw [Wd, List.take_of_length_le (by simp), Xc, Zb]
     simp [PV.els, pu]
    have he : (b ++ pu .u8 (Qn s)).isEmpty = false := by
     rw [Xc, Zb]; simp
    have hlen : (b ++ pu .u8 (Qn s)).length = b.length + (s.size + 2) := by simp
    simp only [hf, List.take_length, List.drop_zero, List.take_succ_cons, List.take_zero, he, hlen, Ent.nil]
    rw [Ja (by simp), Ja (by simp [Jf]; omega), Ja (by simp; omega)]
    exact hr
   exact Qk Jr JoS Js Jw0 Jw1 Jjl [] 0 0 (JwZ 0) hl rfl ((JBL 0 z f b s k).trans hg)
 · cases hr
def apI : List PV -> Int -> List PV := hid fun b n => b ++ pu .u8 (JT n)
def apY : List PV -> Int -> List PV := hid fun b n => b ++ pu .u8 [IntKind.u8.wrap n]
def apT : List PV -> ByteArray -> List PV := hid fun b s => b ++ pu .u8 (Qn s)
def okZ : Bool -> List PV -> Bool := hid slB
def okL : Nat -> List PV -> Bool := hid fun m l => Nat.beq m l.length && Nat.ble l.length 1000000000
theorem Yf (b : List PV) (n : Int) : apI b n = b ++ pu .u8 (JT n) := by rw [apI, hid_eq]
theorem Vp (b : List PV) (n : Int) : apY b n = b ++ pu .u8 [IntKind.u8.wrap n] := by rw [apY, hid_eq]
theorem XC (b : List PV) (s : ByteArray) : apT b s = b ++ pu .u8 (Qn s) := by rw [apT, hid_eq]
theorem Vq (z : Bool) (b : List PV) : okZ z b = slB z b := by rw [okZ, hid_eq]
theorem JeC (m : Nat) (l : List PV) : okL m l = (Nat.beq m l.length && Nat.ble l.length 1000000000) := by rw [okL, hid_eq]
def JhK : List PV -> List Ent -> (Res -> Option Res) -> Option Res
 | [.ro 5 z f b, .sc (.int .i64 n)], [], k => bif okZ z b then k ⟨.ro 5 false false (apI b n), [], []⟩ else none
 | _, _, _ => none
def Jxz : Sig := { own := [], run := JhK }
theorem JxA : Jh tau Try.prog 35 Jxz := fun xs es k res hl hr => JrD xs es k res hl (by
 change JhK xs es k = some res at hr
 show JeA xs es k = some res
 unfold JhK at hr
 split at hr
 · rw [Vq, Yf] at hr; exact hr
 · cases hr)
def JeD : List PV -> List Ent -> (Res -> Option Res) -> Option Res
 | [.ro 5 z f b, .sc (.int .i64 n)], [], k => bif okZ z b then k ⟨.ow 5 16 [] 0 (apY b n).length none, [], [.vec false 5 false (apY b n)]⟩ else none
 | _, _, _ => none
def JrF : Sig := { own := [], run := JeD }
theorem JtC : Jh tau Try.prog 130 JrF := fun xs es k res hl hr => JtB xs es k res hl (by
 change JeD xs es k = some res at hr
 show Jbd xs es k = some res
 unfold JeD at hr
 split at hr
 · rename_i z f b n
   rw [Vq, Vp, show (b ++ pu .u8 [IntKind.u8.wrap n]).length = b.length + 1 by simp] at hr; exact hr
 · cases hr)
def JhL : List PV -> List Ent -> (Res -> Option Res) -> Option Res
 | [.ro 5 z f b, .sc (.string s)], [], k => bif okZ z b && Nat.ble s.size 65535 then k ⟨.ow 5 16 [] 0 (apT b s).length none, [], [.vec false 5 false (apT b s)]⟩ else none
 | _, _, _ => none
def JtD : Sig := { own := [], run := JhL }
theorem JrG : Jh tau Try.prog 92 JtD := fun xs es k res hl hr => Jxy xs es k res hl (by
 change JhL xs es k = some res at hr
 show JeB xs es k = some res
 unfold JhL at hr
 split at hr
 · rename_i z f b s
   rw [Vq, XC, show (b ++ pu .u8 (Qn s)).length = b.length + (s.size + 2) by simp] at hr; exact hr
 · cases hr)
def JeE : List PV -> List Ent -> (Res -> Option Res) -> Option Res
 | [.ro 5 true true [], .sc (.int .i64 n)], [], k => k ⟨.ow 5 16 [] 0 (apY [] n).length none, [], [.vec false 5 false (apY [] n)]⟩
 | [.ow 5 0 [] 0 m none, .sc (.int .i64 n)], [.vec false 5 nl l], k => bif okL m l then k ⟨.ow 5 16 [] 0 (apY l n).length none, [.dead], [.vec false 5 false (apY l n)]⟩ else none
 | _, _, _ => none
def Jl4 : Sig := { own := [true], run := JeE }
theorem Jl5 : Jh tau Try.prog 105 Jl4 := fun xs es k res hl hr => JtA xs es k res hl (by
 change JeE xs es k = some res at hr
 show Gb xs es k = some res
 unfold JeE at hr
 split at hr
 · rw [Vp] at hr; exact hr
 · rename_i m n nl l
   rw [JeC, Vp] at hr
   obtain ⟨hc, hr⟩ := JI hr
   have hm : m = l.length := by rw [Bool.and_eq_true, Nat.beq_eq] at hc; exact hc.1
   have h2 : Gb [.ow 5 0 [] 0 m none, .sc (.int .i64 n)] [.vec false 5 nl l] k = k ⟨.ow 5 16 [] 0 (m + 1) none, [.dead], [.vec false 5 false (l ++ pu .u8 [IntKind.u8.wrap n])]⟩ := Ja hc
   rw [h2, ← hr, hm]; simp
 · cases hr)
def JhM : List PV -> List Ent -> (Res -> Option Res) -> Option Res
 | [.ow 5 0 [] 0 m none, .sc (.int .i64 n)], [.vec false 5 nl l], k => bif okL m l then k ⟨.ow 5 16 [] 0 (apI l n).length none, [.dead], [.vec false 5 false (apI l n)]⟩ else none
 | _, _, _ => none
def JxB : Sig := { own := [true], run := JhM }
theorem JrH : Jh tau Try.prog 53 JxB := fun xs es k res hl hr => JrE xs es k res hl (by
 change JhM xs es k = some res at hr
 show JbZ xs es k = some res
 unfold JhM at hr
 split at hr
 · rename_i m n nl l
   rw [JeC, Yf] at hr
   obtain ⟨hc, hr⟩ := JI hr
   have hm : m = l.length := by rw [Bool.and_eq_true, Nat.beq_eq] at hc; exact hc.1
   have h2 : JbZ [.ow 5 0 [] 0 m none, .sc (.int .i64 n)] [.vec false 5 nl l] k = k ⟨.ow 5 16 [] 0 (m + 8) none, [.dead], [.vec false 5 false (l ++ pu .u8 (JT n))]⟩ := Ja hc
   rw [h2, ← hr, hm]; simp
 · cases hr)
def JhN : List PV -> List Ent -> (Res -> Option Res) -> Option Res
 | [.ow 5 0 [] 0 m none, .sc (.string s)], [.vec false 5 nl l], k => bif okL m l && Nat.ble s.size 65535 then k ⟨.ow 5 16 [] 0 (apT l s).length none, [.dead], [.vec false 5 false (apT l s)]⟩ else none
 | _, _, _ => none
def JxC : Sig := { own := [true], run := JhN }
theorem JrI : Jh tau Try.prog 97 JxC := fun xs es k res hl hr => Jxw xs es k res hl (by
 change JhN xs es k = some res at hr
 show Jb0 xs es k = some res
 unfold JhN at hr
 split at hr
 · rename_i m s nl l
   rw [JeC, XC] at hr
   obtain ⟨hc, hr⟩ := JI hr
   have hm : m = l.length := by simp only [Bool.and_eq_true, Nat.beq_eq] at hc; exact hc.1.1
   have h2 : Jb0 [.ow 5 0 [] 0 m none, .sc (.string s)] [.vec false 5 nl l] k = k ⟨.ow 5 16 [] 0 (m + (s.size + 2)) none, [.dead], [.vec false 5 false (l ++ pu .u8 (Qn s))]⟩ := Ja hc
   rw [h2, ← hr, hm]; simp
 · cases hr)
end
end Go.Proofs.Ythpmachmnoljeaa.Rx
