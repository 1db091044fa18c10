/- What the functions of this law compute, and their plain laws. Conditions: none. -/
import Derived.Test.YtcklhipdldpkhaaProg
import Derived.Test.YtcklhipdldpkhaaSignOwnZ4
namespace Go.Proofs.Ytcklhipdldpkhaa.Rx
open Go
set_option linter.unusedVariables false
set_option linter.unusedSimpArgs false
set_option maxRecDepth 100000
set_option maxHeartbeats 0
def tys : List TypeId := [1, 2, 3, 4, 5, 9, 12, 21, 22, 23, 24, 25, 26, 28, 29, 30, 31, 32, 33, 34, 35, 36, 37, 38, 39, 40, 41, 42, 43, 44, 45, 46, 47, 48, 49, 50, 51, 52, 53, 54, 55, 56, 57, 58, 59, 60, 62, 64, 65, 66, 67, 68, 69, 70, 71, 72, 73, 74, 75, 76, 77, 78, 79, 81, 82, 83, 85, 86, 87, 88, 89, 90, 91, 92, 93, 94, 95, 96, 97, 98, 99, 100, 101, 102, 103, 104, 105, 106, 107, 109, 110, 111, 112, 113, 114, 115, 116, 117, 118, 119, 120, 121, 122, 123, 124, 125, 126, 128, 129, 130, 131, 132, 133, 134, 135, 136, 137, 138, 139, 140, 141, 142, 143, 144, 145, 146, 147, 148, 149, 150, 151, 152, 153, 155, 156, 157, 158, 160, 161, 162, 163, 164, 165, 166, 167, 168, 170, 172, 173, 174, 176, 177, 184, 185, 186, 187, 188, 189, 190, 191, 192, 193, 195, 196, 197, 198, 200, 202, 203, 204, 205, 206, 207, 208, 209, 212, 213]
def Jyy : TypeId → Option PV := fun t =>
  bif t == 1 then some (.sc .nilFunc) else
  bif t == 2 then some (.sc (.int .i64 0)) else
  bif t == 3 then some (.sc (.int .i64 0)) else
  bif t == 4 then some (.sc (.bool false)) else
  bif t == 5 then some (.sc (.int .u8 0)) else
  bif t == 9 then some (.sc (.string ByteArray.empty)) else
  bif t == 12 then some (.sc (.int .u64 0)) else
  bif t == 21 then some (.sc (.int .i32 0)) else
  bif t == 22 then some (.ro 106 true true []) else
  bif t == 23 then some (.sc .nilFunc) else
  bif t == 24 then some (.sc .nilFunc) else
  bif t == 25 then some (.ro 93 true true []) else
  bif t == 26 then some (.ro 41 true true []) else
  bif t == 28 then some (.sc .nilFunc) else
  bif t == 29 then some (.ro 5 true true []) else
  bif t == 30 then some (.st 30 (List.replicate 3 (.ro 5 true true []))) else
  bif t == 31 then some (.st 31 (List.replicate 3 (.ro 5 true true []))) else
  bif t == 32 then some (.sc .nilFunc) else
  bif t == 33 then some (.st 33 [.sc (.int .i64 0), .sc (.int .i64 0)]) else
  bif t == 34 then some (.st 34 [.sc (.int .i64 0), .sc (.int .i64 0)]) else
  bif t == 35 then some (.ro 45 true true []) else
  bif t == 36 then some (.ar 36 (List.replicate 32 (.sc (.int .u8 0)))) else
  bif t == 37 then some (.ar 37 (List.replicate 32 (.sc (.int .u8 0)))) else
  bif t == 38 then some (.st 38 [.st 34 [.sc (.int .i64 0), .sc (.int .i64 0)], .sc (.string ByteArray.empty), .ro 45 true true [], .sc (.int .i64 0), .ar 37 (List.replicate 32 (.sc (.int .u8 0)))]) else
  bif t == 39 then some (.st 39 [.st 34 [.sc (.int .i64 0), .sc (.int .i64 0)], .sc (.string ByteArray.empty), .ro 45 true true [], .sc (.int .i64 0), .ar 37 (List.replicate 32 (.sc (.int .u8 0)))]) else
  bif t == 40 then some (.sc .nilFunc) else
  bif t == 41 then some (.st 41 [.st 34 [.sc (.int .i64 0), .sc (.int .i64 0)], .sc (.string ByteArray.empty), .ro 45 true true [], .sc (.int .i64 0), .ar 37 (List.replicate 32 (.sc (.int .u8 0)))]) else
  bif t == 42 then some (.sc .nilFunc) else
  bif t == 43 then some (.sc .nilFunc) else
  bif t == 44 then some (.st 44 [.sc (.int .i64 0), .sc (.int .i64 0)]) else
  bif t == 45 then some (.st 45 [.sc (.int .i64 0), .sc (.int .i64 0)]) else
  bif t == 46 then some (.sc .nilFunc) else
  bif t == 47 then some (.ro 29 true true []) else
  bif t == 48 then some (.sc .nilFunc) else
  bif t == 49 then some (.sc .nilFunc) else
  bif t == 50 then some (.sc .nilFunc) else
  bif t == 51 then some (.sc .nilFunc) else
  bif t == 52 then some (.sc .nilFunc) else
  bif t == 53 then some (.st 53 [.sc (.int .i64 0), .sc (.int .i64 0), .sc (.int .i64 0), .st 34 [.sc (.int .i64 0), .sc (.int .i64 0)], .st 45 [.sc (.int .i64 0), .sc (.int .i64 0)], .sc (.int .i64 0), .sc (.int .i64 0), .st 45 [.sc (.int .i64 0), .sc (.int .i64 0)], .sc (.int .i64 0), .sc (.int .i64 0), .ro 29 true true []]) else
  bif t == 54 then some (.st 54 [.sc (.int .i64 0), .sc (.int .i64 0), .sc (.int .i64 0), .st 34 [.sc (.int .i64 0), .sc (.int .i64 0)], .st 45 [.sc (.int .i64 0), .sc (.int .i64 0)], .sc (.int .i64 0), .sc (.int .i64 0), .st 45 [.sc (.int .i64 0), .sc (.int .i64 0)], .sc (.int .i64 0), .sc (.int .i64 0), .ro 29 true true []]) else
  bif t == 55 then some (.ro 3 true true []) else
  bif t == 56 then some (.sc .nilFunc) else
  bif t == 57 then some (.sc .nilFunc) else
  bif t == 58 then some (.sc .nilFunc) else
  bif t == 59 then some (.sc .nilFunc) else
  bif t == 60 then some (.sc (.int .i64 0)) else
  bif t == 62 then some (.sc .nilFunc) else
  bif t == 64 then some (.sc .nilFunc) else
  bif t == 65 then some (.sc .nilFunc) else
  bif t == 66 then some (.sc .nilFunc) else
  bif t == 67 then some (.sc .nilFunc) else
  bif t == 68 then some (.sc .nilFunc) else
  bif t == 69 then some (.sc .nilFunc) else
  bif t == 70 then some (.ro 99 true true []) else
  bif t == 71 then some (.ro 99 true true []) else
  bif t == 72 then some (.st 72 [.st 45 [.sc (.int .i64 0), .sc (.int .i64 0)], .sc (.int .i64 0), .sc (.int .i64 0), .ar 37 (List.replicate 32 (.sc (.int .u8 0))), .sc (.int .i64 0), .ro 99 true true [], .st 45 [.sc (.int .i64 0), .sc (.int .i64 0)]]) else
  bif t == 73 then some (.st 73 [.st 45 [.sc (.int .i64 0), .sc (.int .i64 0)], .sc (.int .i64 0), .sc (.int .i64 0), .ar 37 (List.replicate 32 (.sc (.int .u8 0))), .sc (.int .i64 0), .ro 99 true true [], .st 45 [.sc (.int .i64 0), .sc (.int .i64 0)]]) else
  bif t == 74 then some (.sc .nilFunc) else
  bif t == 75 then some (.sc .nilFunc) else
  bif t == 76 then some (.st 76 [.ro 5 true true [], .ar 37 (List.replicate 32 (.sc (.int .u8 0)))]) else
  bif t == 77 then some (.st 77 [.ro 5 true true [], .ar 37 (List.replicate 32 (.sc (.int .u8 0)))]) else
  bif t == 78 then some (.sc .nilFunc) else
  bif t == 79 then some (.sc .nilFunc) else
  bif t == 81 then some (.sc .nilFunc) else
  bif t == 82 then some (.sc .nilFunc) else
  bif t == 83 then some (.ro 31 true true []) else
  bif t == 85 then some (.sc .nilFunc) else
  bif t == 86 then some (.sc .nilFunc) else
  bif t == 87 then some (.sc .nilFunc) else
  bif t == 88 then some (.sc .nilFunc) else
  bif t == 89 then some (.sc .nilFunc) else
  bif t == 90 then some (.sc .nilFunc) else
  bif t == 91 then some (.sc .nilFunc) else
  bif t == 92 then some (.st 92 [.st 77 [.ro 5 true true [], .ar 37 (List.replicate 32 (.sc (.int .u8 0)))], .sc (.int .i64 0), .ro 99 true true [], .ar 37 (List.replicate 32 (.sc (.int .u8 0))), .ar 37 (List.replicate 32 (.sc (.int .u8 0)))]) else
  bif t == 93 then some (.st 93 [.st 77 [.ro 5 true true [], .ar 37 (List.replicate 32 (.sc (.int .u8 0)))], .sc (.int .i64 0), .ro 99 true true [], .ar 37 (List.replicate 32 (.sc (.int .u8 0))), .ar 37 (List.replicate 32 (.sc (.int .u8 0)))]) else
  bif t == 94 then some (.sc .nilFunc) else
  bif t == 95 then some (.sc .nilFunc) else
  bif t == 96 then some (.sc .nilFunc) else
  bif t == 97 then some (.sc .nilFunc) else
  bif t == 98 then some (.st 98 [.sc (.int .i64 0), .sc (.int .i64 0), .sc (.string ByteArray.empty)]) else
  bif t == 99 then some (.st 99 [.sc (.int .i64 0), .sc (.int .i64 0), .sc (.string ByteArray.empty)]) else
  bif t == 100 then some (.sc .nilFunc) else
  bif t == 101 then some (.sc .nilFunc) else
  bif t == 102 then some (.sc .nilFunc) else
  bif t == 103 then some (.sc .nilFunc) else
  bif t == 104 then some (.sc .nilFunc) else
  bif t == 105 then some (.st 105 [.sc (.int .i64 0), .sc (.int .i64 0), .sc (.int .i64 0), .ro 3 true true []]) else
  bif t == 106 then some (.st 106 [.sc (.int .i64 0), .sc (.int .i64 0), .sc (.int .i64 0), .ro 3 true true []]) else
  bif t == 107 then some (.sc .nilFunc) else
  bif t == 109 then some (.sc .nilFunc) else
  bif t == 110 then some (.sc .nilFunc) else
  bif t == 111 then some (.sc (.int .u32 0)) else
  bif t == 112 then some (.ar 112 (List.replicate 8 (.sc (.int .u32 0)))) else
  bif t == 113 then some (.ar 113 (List.replicate 8 (.sc (.int .u32 0)))) else
  bif t == 114 then some (.sc .nilFunc) else
  bif t == 115 then some (.sc .nilFunc) else
  bif t == 116 then some (.sc .nilFunc) else
  bif t == 117 then some (.sc .nilFunc) else
  bif t == 118 then some (.ar 118 (List.replicate 64 (.sc (.int .u32 0)))) else
  bif t == 119 then some (.sc .nilFunc) else
  bif t == 120 then some (.sc (.int .u64 0)) else
  bif t == 121 then some (.sc (.int .u64 0)) else
  bif t == 122 then some (.sc .nilFunc) else
  bif t == 123 then some (.sc .nilFunc) else
  bif t == 124 then some (.sc .nilFunc) else
  bif t == 125 then some (.sc (.pointer none)) else
  bif t == 126 then some (.sc .nilFunc) else
  bif t == 128 then some (.sc .nilFunc) else
  bif t == 129 then some (.sc .nilFunc) else
  bif t == 130 then some (.sc .nilFunc) else
  bif t == 131 then some (.sc .nilFunc) else
  bif t == 132 then some (.sc .nilFunc) else
  bif t == 133 then some (.sc (.pointer none)) else
  bif t == 134 then some (.sc .nilFunc) else
  bif t == 135 then some (.sc .nilFunc) else
  bif t == 136 then some (.sc .nilFunc) else
  bif t == 137 then some (.st 137 [.ro 5 true true [], .sc (.int .i64 0), .sc (.int .i64 0)]) else
  bif t == 138 then some (.st 138 [.ro 5 true true [], .sc (.int .i64 0), .sc (.int .i64 0)]) else
  bif t == 139 then some (.sc .nilFunc) else
  bif t == 140 then some (.sc .nilFunc) else
  bif t == 141 then some (.sc .nilFunc) else
  bif t == 142 then some (.sc .nilFunc) else
  bif t == 143 then some (.sc .nilFunc) else
  bif t == 144 then some (.sc .nilFunc) else
  bif t == 145 then some (.ro 148 true true []) else
  bif t == 146 then some (.sc .nilFunc) else
  bif t == 147 then some (.sc (.pointer none)) else
  bif t == 148 then some (.sc (.pointer none)) else
  bif t == 149 then some (.sc .nilFunc) else
  bif t == 150 then some (.sc .nilFunc) else
  bif t == 151 then some (.sc .nilFunc) else
  bif t == 152 then some (.sc .nilFunc) else
  bif t == 153 then some (.sc .nilFunc) else
  bif t == 155 then some (.sc .nilFunc) else
  bif t == 156 then some (.sc .nilFunc) else
  bif t == 157 then some (.sc .nilFunc) else
  bif t == 158 then some (.sc .nilFunc) else
  bif t == 160 then some (.sc .nilFunc) else
  bif t == 161 then some (.sc .nilFunc) else
  bif t == 162 then some (.sc .nilFunc) else
  bif t == 163 then some (.sc (.complex .f64 0 0)) else
  bif t == 164 then some (.sc (.float .f64 0)) else
  bif t == 165 then some (.ro 163 true true []) else
  bif t == 166 then some (.sc .nilFunc) else
  bif t == 167 then some (.sc .nilFunc) else
  bif t == 168 then some (.sc .nilFunc) else
  bif t == 170 then some (.sc .nilFunc) else
  bif t == 172 then some (.sc .nilFunc) else
  bif t == 173 then some (.sc .nilFunc) else
  bif t == 174 then some (.sc .nilFunc) else
  bif t == 176 then some (.sc .nilFunc) else
  bif t == 177 then some (.sc .nilFunc) else
  bif t == 184 then some (.sc .nilFunc) else
  bif t == 185 then some (.st 185 [.ro 5 true true [], .sc (.int .i64 0)]) else
  bif t == 186 then some (.st 186 [.ro 5 true true [], .sc (.int .i64 0)]) else
  bif t == 187 then some (.sc .nilFunc) else
  bif t == 188 then some (.sc .nilFunc) else
  bif t == 189 then some (.ar 189 (List.replicate 64 (.sc (.int .u8 0)))) else
  bif t == 190 then some (.ar 190 (List.replicate 64 (.sc (.int .u8 0)))) else
  bif t == 191 then some (.sc .nilFunc) else
  bif t == 192 then some (.sc .nilFunc) else
  bif t == 193 then some (.sc .nilFunc) else
  bif t == 195 then some (.sc .nilFunc) else
  bif t == 196 then some (.sc .nilFunc) else
  bif t == 197 then some (.sc .nilFunc) else
  bif t == 198 then some (.sc .nilFunc) else
  bif t == 200 then some (.sc .nilFunc) else
  bif t == 202 then some (.sc .nilFunc) else
  bif t == 203 then some (.sc (.pointer none)) else
  bif t == 204 then some (.sc .nilFunc) else
  bif t == 205 then some (.sc .nilFunc) else
  bif t == 206 then some (.sc .nilFunc) else
  bif t == 207 then some (.sc .nilFunc) else
  bif t == 208 then some (.sc .nilFunc) else
  bif t == 209 then some (.sc .nilFunc) else
  bif t == 212 then some (.sc .nilFunc) else
  bif t == 213 then some (.sc .nilFunc) else
  none
noncomputable def tau : Tab := Vt Try.prog tys Jyy
theorem Jq : TabOk tau Try.prog := JjQ (by kernel_rfl)
theorem Jr : Try.prog.follows .mixedOrders = true := by kernel_rfl
def F0 : Fns := fun _ => none
theorem JE : Jx tau Try.prog F0 := fun g sg h => by cases h
noncomputable def F21 : Fns := F0
theorem JqR : Jx tau Try.prog F21 := JE
def Jmi : An := (.seq .leaf (.seq .leaf (.seq .leaf .leaf)))
noncomputable def g21 (f : Nat) (b_z : Bool) (b_f : Bool) (b : List PV) (k : Res → Option Res) : Option Res := bif decide (0 ≤ J0 (zi b.length) 60) && true && decide ((J0 (zi b.length) 60).toNat ≤ b.length) && true then bif Jj (2 + (List.take (J0 (zi b.length) 60).toNat b).length) 1 && true then bif Jj (2 + (List.take (J0 (zi b.length) 60).toNat b).length) 1 && true then bif Jj (2 + (List.take (J0 (zi b.length) 60).toNat b).length) 1 && true then k (Res.mk (.st 31 [.ro 5 false false (List.take (2 + (List.take (J0 (zi b.length) 60).toNat b).length) (.sc (.int .u8 107) :: .sc (.int .u8 48) :: id (List.take (J0 (zi b.length) 60).toNat b))), .ro 5 false false (List.take (2 + (List.take (J0 (zi b.length) 60).toNat b).length) (.sc (.int .u8 107) :: .sc (.int .u8 49) :: id (List.take (J0 (zi b.length) 60).toNat b))), .ro 5 false false (List.take (2 + (List.take (J0 (zi b.length) 60).toNat b).length) (.sc (.int .u8 107) :: .sc (.int .u8 50) :: id (List.take (J0 (zi b.length) 60).toNat b)))]) [] []) else none else none else none else none
theorem e21 (f : Nat) (b_z : Bool) (b_f : Bool) (b : List PV) (k : Res → Option Res) : JM tau F21 Try.f21 (Try.f21.body.get!) Jmi [.ro] 0 [.ro 5 b_z b_f b] [] k = g21 f b_z b_f b k := by kernel_rfl
theorem Jyz (f : Nat) : Jg (Try.f21.body.get!) Jmi = [] := by kernel_rfl
theorem JyA (f : Nat) : ∀ q ∈ Jg (Try.f21.body.get!) Jmi, q.Ok tau Try.prog 0 := by
  rw [Jyz f]; intro q hq; cases hq
theorem Jtx : Try.prog.funcs[21]? = some Try.f21 := by kernel_rfl
theorem Jty : Try.f21.body = some (Try.f21.body.get!) := by kernel_rfl
theorem Jtz : Enters Try.prog 21 := enters_of Jtx (by kernel_rfl) Jty
noncomputable def JjT : List PV → List Ent → (Res → Option Res) → Option Res
  | [.ro 5 b_z b_f b], [], k => g21 0 b_z b_f b k
  | _, _, _ => none
noncomputable def s21 : Sig := { own := [], run := JjT }
theorem JyB : Jh tau Try.prog 21 s21 := JY Jq JqR Jr Jtx Jty Jmi [.ro] 0 [] JjT (JyA 0) fun xs es k res hr => by
  unfold JjT at hr
  split at hr
  · exact ⟨rfl, 0, (e21 0 _ _ _  _).trans hr⟩
  · cases hr

-- FN law16.within
noncomputable def okW : Int → Bool := hid fun n => decide (0 < n) && decide (n < 1000000000000)
theorem YB (n : Int) : okW n = (decide (0 < n) && decide (n < 1000000000000)) := by rw [okW, hid_eq]


noncomputable def JtA : Fns := F0
theorem Jmk : Jx tau Try.prog JtA := JE
def Jhv : An := (.seq .leaf (.seq (.seq .leaf (.cond (.seq .leaf .leaf) .leaf)) (.seq .leaf .leaf)))
noncomputable def Jml (f : Nat) (s_z : Bool) (s_f : Bool) (s : List PV) (k : Res → Option Res) : Option Res := bif s_z then k (Res.mk (.ro 5 true true []) [] []) else bif Jj (0 + s.length) 1 && true then k (Res.mk (.ro 5 false false (List.take (0 + s.length) s)) [] []) else none
theorem JyC (f : Nat) (s_z : Bool) (s_f : Bool) (s : List PV) (k : Res → Option Res) : JM tau JtA Try.f131 (Try.f131.body.get!) Jhv [.ro] 0 [.ro 5 s_z s_f s] [] k = Jml f s_z s_f s k := by kernel_rfl
theorem JtB (f : Nat) : Jg (Try.f131.body.get!) Jhv = [] := by kernel_rfl
theorem JtC (f : Nat) : ∀ q ∈ Jg (Try.f131.body.get!) Jhv, q.Ok tau Try.prog 0 := by
  rw [JtB f]; intro q hq; cases hq
theorem Joz : Try.prog.funcs[131]? = some Try.f131 := by kernel_rfl
theorem JoA : Try.f131.body = some (Try.f131.body.get!) := by kernel_rfl
theorem JtD : Enters Try.prog 131 := enters_of Joz (by kernel_rfl) JoA
noncomputable def Jf9 : List PV → List Ent → (Res → Option Res) → Option Res
  | [.ro 5 s_z s_f s], [], k => Jml 0 s_z s_f s k
  | _, _, _ => none
noncomputable def JyD : Sig := { own := [], run := Jf9 }
theorem JtE : Jh tau Try.prog 131 JyD := JY Jq Jmk Jr Joz JoA Jhv [.ro] 0 [] Jf9 (JtC 0) fun xs es k res hr => by
  unfold Jf9 at hr
  split at hr
  · exact ⟨rfl, 0, (JyC 0 _ _ _  _).trans hr⟩
  · cases hr
-- FN slices.Clone[[]byte,byte]
def slB (z : Bool) (l : List PV) : Bool := (!z || l.isEmpty) && Nat.ble l.length 1000000000
theorem Q8 {z : Bool} {l : List PV} : slB z l = true ↔ (z = true → l = []) ∧ l.length ≤ 1000000000 := by
  simp only [slB, Bool.and_eq_true, Nat.ble_eq, Bool.or_eq_true, Bool.not_eq_true', List.isEmpty_iff]
  cases z <;> simp
def Jc4 : List PV → List Ent → (Res → Option Res) → Option Res
  | [.ro 5 z f l], [], k => bif slB z l then k ⟨.ro 5 z z l, [], []⟩ else none
  | _, _, _ => none
def JoB : Sig := { own := [], run := Jc4 }
theorem JqS : Jh tau Try.prog 131 JoB := JtE.of fun xs es k res hr => by
  change Jc4 xs es k = some res at hr
  unfold Jc4 at hr
  split at hr
  · rename_i z f l
    obtain ⟨hc, hr⟩ := JH hr
    obtain ⟨h1, h2⟩ := Q8.1 hc
    show Jml 0 z f l k = some res
    unfold Jml
    cases z with
    | true => obtain rfl := h1 rfl; exact hr
    | false =>
      rw [cond_false, Ja (by simp [Jj]; omega)]
      simp only [Nat.zero_add, List.nil_append, List.take_length]
      exact hr
  · cases hr
noncomputable def F76 : Fns := JG 131 JoB (F0)
theorem JqT : Jx tau Try.prog F76 := (JE).add JqS JtD
def Jmm : An := (.seq .leaf (.seq .leaf .leaf))
noncomputable def g76 (f : Nat) (b_z : Bool) (b_f : Bool) (b : List PV) (k : Res → Option Res) : Option Res := bif slB b_z b then k (Res.mk (.ptr 16 []) [] [.box false 186 (PV.st 186 [.ro 5 b_z b_z b, .sc (.int .i64 0)])]) else none
theorem e76 (f : Nat) (b_z : Bool) (b_f : Bool) (b : List PV) (k : Res → Option Res) : JM tau F76 Try.f76 (Try.f76.body.get!) Jmm [.any] 0 [.ro 5 b_z b_f b] [] k = g76 f b_z b_f b k := by kernel_rfl
theorem JyE (f : Nat) : Jg (Try.f76.body.get!) Jmm = [] := by kernel_rfl
theorem JyF (f : Nat) : ∀ q ∈ Jg (Try.f76.body.get!) Jmm, q.Ok tau Try.prog 0 := by
  rw [JyE f]; intro q hq; cases hq
theorem JtF : Try.prog.funcs[76]? = some Try.f76 := by kernel_rfl
theorem JtG : Try.f76.body = some (Try.f76.body.get!) := by kernel_rfl
theorem JtH : Enters Try.prog 76 := enters_of JtF (by kernel_rfl) JtG
noncomputable def JjU : List PV → List Ent → (Res → Option Res) → Option Res
  | [.ro 5 b_z b_f b], [], k => g76 0 b_z b_f b k
  | _, _, _ => none
noncomputable def s76 : Sig := { own := [], run := JjU }
theorem JtI : Jh tau Try.prog 76 s76 := JY Jq JqT Jr JtF JtG Jmm [.any] 0 [] JjU (JyF 0) fun xs es k res hr => by
  unfold JjU at hr
  split at hr
  · exact ⟨rfl, 0, (e76 0 _ _ _  _).trans hr⟩
  · cases hr

noncomputable def JtJ : Fns := F0
theorem Jmn : Jx tau Try.prog JtJ := JE
def Jhw : An := (.seq .leaf (.cond .leaf .leaf))
noncomputable def JtK (f : Nat) (r_b_z : Bool) (r_b_f : Bool) (r_b : List PV) (r_e : Int) (e : Int) (k : Res → Option Res) : Option Res := bif r_e == 0 then k (Res.mk (.tup []) [.box false 186 (PV.st 186 [.ro 5 r_b_z r_b_f r_b, .sc (.int .i64 e)])] []) else k (Res.mk (.tup []) [.box false 186 (PV.st 186 [.ro 5 r_b_z r_b_f r_b, .sc (.int .i64 r_e)])] [])
theorem JyG (f : Nat) (r_b_z : Bool) (r_b_f : Bool) (r_b : List PV) (r_e : Int) (e : Int) (k : Res → Option Res) : JM tau JtJ Try.f134 (Try.f134.body.get!) Jhw [] 0 [.ptr 0 [], .sc (.int .i64 e)] [.box false 186 (.st 186 [.ro 5 r_b_z r_b_f r_b, .sc (.int .i64 r_e)])] k = JtK f r_b_z r_b_f r_b r_e e k := by kernel_rfl
theorem JtL (f : Nat) : Jg (Try.f134.body.get!) Jhw = [] := by kernel_rfl
theorem JtM (f : Nat) : ∀ q ∈ Jg (Try.f134.body.get!) Jhw, q.Ok tau Try.prog 1 := by
  rw [JtL f]; intro q hq; cases hq
theorem JoC : Try.prog.funcs[134]? = some Try.f134 := by kernel_rfl
theorem JoD : Try.f134.body = some (Try.f134.body.get!) := by kernel_rfl
theorem JoE : Enters Try.prog 134 := enters_of JoC (by kernel_rfl) JoD
noncomputable def Jga : List PV → List Ent → (Res → Option Res) → Option Res
  | [.ptr 0 [], .sc (.int .i64 e)], [.box false 186 (.st 186 [.ro 5 r_b_z r_b_f r_b, .sc (.int .i64 r_e)])], k => JtK 0 r_b_z r_b_f r_b r_e e k
  | _, _, _ => none
noncomputable def JqU : Sig := { own := [], run := Jga }
theorem JoF : Jh tau Try.prog 134 JqU := JY Jq Jmn Jr JoC JoD Jhw [] 1 [] Jga (JtM 0) fun xs es k res hr => by
  unfold Jga at hr
  split at hr
  · exact ⟨rfl, 0, (JyG 0 _ _ _ _ _  _).trans hr⟩
  · cases hr
noncomputable def JtN : Fns := JG 134 JqU (F0)
theorem Jmo : Jx tau Try.prog JtN := (JE).add JoF JoE
def Jhx : An := (.seq .leaf (.seq (.seq .leaf (.cond .leaf .leaf)) (.seq (.seq .leaf (.cond (.seq .leaf .leaf) .leaf)) (.seq .leaf (.seq .leaf (.seq .leaf .leaf))))))
noncomputable def Jmp (f : Nat) (r_b_z : Bool) (r_b_f : Bool) (r_b : List PV) (r_e : Int) (n : Int) (k : Res → Option Res) : Option Res := bif decide (n > zi r_b.length) then bif r_e == 0 then k (Res.mk (.ro 5 true true []) [.box false 186 (PV.st 186 [.ro 5 r_b_z r_b_f r_b, .sc (.int .i64 8)])] []) else bif r_e != 0 then k (Res.mk (.ro 5 true true []) [.box false 186 (PV.st 186 [.ro 5 r_b_z r_b_f r_b, .sc (.int .i64 r_e)])] []) else bif decide (0 ≤ n) && true && decide (n.toNat ≤ r_b.length) && true then bif decide (0 ≤ n) && true && decide (n.toNat ≤ r_b.length) && decide (r_b.length ≤ r_b.length) && true then k (Res.mk (.ro 5 r_b_z (r_b_z || r_b_f && false) (List.take n.toNat r_b)) [.box false 186 (PV.st 186 [.ro 5 r_b_z (r_b_z || r_b_f && true) (List.drop n.toNat (List.take r_b.length r_b)), .sc (.int .i64 r_e)])] []) else none else none else bif r_e != 0 then k (Res.mk (.ro 5 true true []) [.box false 186 (PV.st 186 [.ro 5 r_b_z r_b_f r_b, .sc (.int .i64 r_e)])] []) else bif decide (0 ≤ n) && true && decide (n.toNat ≤ r_b.length) && true then bif decide (0 ≤ n) && true && decide (n.toNat ≤ r_b.length) && decide (r_b.length ≤ r_b.length) && true then k (Res.mk (.ro 5 r_b_z (r_b_z || r_b_f && false) (List.take n.toNat r_b)) [.box false 186 (PV.st 186 [.ro 5 r_b_z (r_b_z || r_b_f && true) (List.drop n.toNat (List.take r_b.length r_b)), .sc (.int .i64 r_e)])] []) else none else none
theorem JyH (f : Nat) (r_b_z : Bool) (r_b_f : Bool) (r_b : List PV) (r_e : Int) (n : Int) (k : Res → Option Res) : JM tau JtN Try.f156 (Try.f156.body.get!) Jhx [.ro] 0 [.ptr 0 [], .sc (.int .i64 n)] [.box false 186 (.st 186 [.ro 5 r_b_z r_b_f r_b, .sc (.int .i64 r_e)])] k = Jmp f r_b_z r_b_f r_b r_e n k := by kernel_rfl
theorem JtO (f : Nat) : Jg (Try.f156.body.get!) Jhx = [] := by kernel_rfl
theorem JtP (f : Nat) : ∀ q ∈ Jg (Try.f156.body.get!) Jhx, q.Ok tau Try.prog 1 := by
  rw [JtO f]; intro q hq; cases hq
theorem JoG : Try.prog.funcs[156]? = some Try.f156 := by kernel_rfl
theorem JoH : Try.f156.body = some (Try.f156.body.get!) := by kernel_rfl
theorem JoI : Enters Try.prog 156 := enters_of JoG (by kernel_rfl) JoH
noncomputable def Jgb : List PV → List Ent → (Res → Option Res) → Option Res
  | [.ptr 0 [], .sc (.int .i64 n)], [.box false 186 (.st 186 [.ro 5 r_b_z r_b_f r_b, .sc (.int .i64 r_e)])], k => Jmp 0 r_b_z r_b_f r_b r_e n k
  | _, _, _ => none
noncomputable def JyI : Sig := { own := [], run := Jgb }
theorem JtQ : Jh tau Try.prog 156 JyI := JY Jq Jmo Jr JoG JoH Jhx [.ro] 1 [] Jgb (JtP 0) fun xs es k res hr => by
  unfold Jgb at hr
  split at hr
  · exact ⟨rfl, 0, (JyH 0 _ _ _ _ _  _).trans hr⟩
  · cases hr
structure RS where
  b : List PV
  e : Int
def byB (l : List PV) : Bool := l.all fun p => p.isInt .u8 && (decide (0 ≤ p.int) && decide (p.int < 256))
def Xd : List Int → Int
  | [] => 0
  | x :: r => x + 256 * Xd r
def YC (n : Nat) (s : RS) : Bool := s.e == 0 && Nat.ble n s.b.length
def Qc (n : Nat) (s : RS) : RS := bif YC n s then ⟨s.b.drop n, 0⟩ else ⟨s.b, bif s.e == 0 then 8 else s.e⟩
def Qx (n : Nat) (s : RS) : List PV := bif YC n s then s.b.take n else []
def Wh (n : Nat) (s : RS) : Int := IntKind.i64.wrap (Xd (Jf (Qx n s)))
noncomputable def okS : Nat → RS → Bool := hid YC
noncomputable def JeB : Nat → RS → List PV := hid Qx
theorem JqV (n : Nat) (s : RS) : okS n s = YC n s := by rw [okS, hid_eq]
theorem Jc5 (n : Nat) (s : RS) : JeB n s = Qx n s := by rw [JeB, hid_eq]
noncomputable def Jb : Nat → RS → RS := hid Qc
noncomputable def Jz : Nat → RS → Int := hid Wh
theorem WO (n : Nat) (s : RS) : Jb n s = Qc n s := by rw [Jb, hid_eq]
theorem WX (n : Nat) (s : RS) : Jz n s = Wh n s := by rw [Jz, hid_eq]
def JeC (s : RS) : RS := Qc (Wh 2 s).toNat (Qc 2 s)
def JeD (s : RS) : ByteArray := ⟨(Jn (Qx (Wh 2 s).toNat (Qc 2 s))).toArray⟩
noncomputable def J3 : RS → RS := hid JeC
noncomputable def JP : RS → ByteArray := hid JeD
theorem Jak (s : RS) : J3 s = JeC s := by rw [J3, hid_eq]
theorem Jal (s : RS) : JP s = JeD s := by rw [JP, hid_eq]
theorem Q9 {l : List PV} : byB l = true ↔ Je .u8 l = true ∧ ∀ x ∈ Jf l, 0 ≤ x ∧ x < 256 := by
  induction l with
  | nil => simp [byB, Je, Jf]
  | cons p ps ih =>
    have e1 : byB (p :: ps) = ((p.isInt .u8 && (decide (0 ≤ p.int) && decide (p.int < 256))) && byB ps) := rfl
    have e2 : Jf (p :: ps) = p.int :: Jf ps := rfl
    have e3 : Je .u8 (p :: ps) = (p.isInt .u8 && Je .u8 ps) := rfl
    rw [e1, e2, e3]
    simp only [Bool.and_eq_true, decide_eq_true_eq, List.mem_cons, forall_eq_or_imp, ih]
    constructor
    · rintro ⟨⟨h1, h2⟩, h3, h4⟩
      exact ⟨⟨h1, h3⟩, h2, h4⟩
    · rintro ⟨⟨h1, h3⟩, h2, h4⟩
      exact ⟨⟨h1, h2⟩, h3, h4⟩
theorem JjV {l : List PV} (h : byB l = true) (n : Nat) : byB (l.take n) = true := List.all_eq_true.2 fun p hp => List.all_eq_true.1 h p (List.mem_of_mem_take hp)
theorem JjW {l : List PV} (h : byB l = true) (n : Nat) : byB (l.drop n) = true := List.all_eq_true.2 fun p hp => List.all_eq_true.1 h p (List.mem_of_mem_drop hp)
theorem JjX {l : List Int} : byB (pu .u8 l) = true ↔ ∀ x ∈ l, 0 ≤ x ∧ x < 256 := by rw [Q9]; simp
theorem Xs {s : RS} (h : byB s.b = true) (n : Nat) : byB (Qc n s).b = true := by
  unfold Qc; cases YC n s
  · exact h
  · exact JjW h n
theorem Jc6 {s : RS} (h : byB s.b = true) (n : Nat) : byB (Qx n s) = true := by
  unfold Qx; cases YC n s
  · rfl
  · exact JjV h n
theorem ZT (n : Nat) (s : RS) : (Qx n s).length ≤ n := by
  unfold Qx; cases YC n s
  · exact Nat.zero_le _
  · simp; omega
theorem YD : ∀ (l : List Int), (∀ x ∈ l, 0 ≤ x ∧ x < 256) → 0 ≤ Xd l ∧ Xd l < 256 ^ l.length
  | [], h => by simp [Xd]
  | x :: r, h => by
      have h1 := h x List.mem_cons_self
      have h2 := YD r fun y hy => h y (List.mem_cons_of_mem _ hy)
      simp only [Xd, List.length_cons, Int.pow_succ]
      generalize (256 : Int) ^ r.length = B at *
      omega
theorem XL {s : RS} (h : byB s.b = true) {n : Nat} (hn : n ≤ 2) : 0 ≤ Wh n s ∧ Wh n s < 65536 := by
  have h1 := YD (Jf (Qx n s)) (Q9.1 (Jc6 h n)).2
  have h2 : (Jf (Qx n s)).length ≤ 2 := by rw [QS]; exact Nat.le_trans (ZT n s) hn
  have h3 : (256 : Int) ^ (Jf (Qx n s)).length ≤ 65536 := by
    generalize (Jf (Qx n s)).length = m at *
    match m, h2 with
    | 0, _ => decide
    | 1, _ => decide
    | 2, _ => decide
  unfold Wh
  rw [wrap_i64 (by omega) (by omega)]; omega
structure RT where
  B : List PV
  P : Int
  e : Int
def RT.view (t : RT) : RS := ⟨t.B.drop t.P.toNat, t.e⟩
def okT (t : RT) : Bool := decide (0 ≤ t.P) && (decide (t.P ≤ (t.B.length : Int)) && (byB t.B && Nat.ble t.B.length 1000000000))
def XM (n : Nat) (t : RT) : RT := bif YC n t.view then ⟨t.B, ((t.P.toNat + n : Nat) : Int), 0⟩ else ⟨t.B, t.P, bif t.e == 0 then 8 else t.e⟩
noncomputable def Jhy : Nat → RT → RT := hid XM
noncomputable def JqW : Nat → RT → Int := hid fun n t => Wh n t.view
def JeE (t : RT) : RT := XM (Wh 2 t.view).toNat (XM 2 t)
noncomputable def Jmq : RT → RT := hid JeE
noncomputable def JjY : RT → ByteArray := hid fun t => JeD t.view
theorem JeF (n : Nat) (t : RT) : Jhy n t = XM n t := by rw [Jhy, hid_eq]
theorem Jmr (n : Nat) (t : RT) : JqW n t = Wh n t.view := by rw [JqW, hid_eq]
theorem Jhz (t : RT) : Jmq t = JeE t := by rw [Jmq, hid_eq]
theorem JjZ (t : RT) : JjY t = JeD t.view := by rw [JjY, hid_eq]
theorem Gi (n : Nat) (t : RT) : (XM n t).view = Qc n t.view := by
  unfold XM Qc
  cases YC n t.view with
  | true => simp only [cond_true, RT.view, Int.toNat_natCast, List.drop_drop]
  | false => simp only [cond_false, RT.view]
theorem Jj0 (t : RT) : (JeE t).view = JeC t.view := by simp only [JeE, JeC, Gi]
@[simp] theorem JtR (n : Nat) (t : RT) : JqW n t = Jz n t.view := by rw [Jmr, WX]
@[simp] theorem JqX (n : Nat) (t : RT) : (Jhy n t).view = Jb n t.view := by rw [JeF, WO, Gi]
@[simp] theorem Jto (t : RT) : (Jmq t).view = J3 t.view := by rw [Jhz, Jak, Jj0]
@[simp] theorem Jtp (t : RT) : JjY t = JP t.view := by rw [JjZ, Jal]
theorem Vu {t : RT} (h : okT t = true) (n : Nat) : okT (XM n t) = true := by
  have h' := h
  simp only [okT, Bool.and_eq_true, decide_eq_true_eq, Nat.ble_eq] at h ⊢
  unfold XM
  cases hk : YC n t.view with
  | true =>
    simp only [cond_true]
    have hn : n ≤ (t.B.drop t.P.toNat).length := by
      simp only [YC, RT.view, Bool.and_eq_true, Nat.ble_eq] at hk; exact hk.2
    rw [List.length_drop] at hn
    refine ⟨by omega, by omega, h.2.2⟩
  | false => exact h
theorem Jms {t : RT} (h : okT t = true) : okT (JeE t) = true := Vu (Vu h _) _
@[simp] theorem Jtq {t : RT} (h : okT t = true) (n : Nat) : okT (Jhy n t) = true := by rw [JeF]; exact Vu h n
@[simp] theorem JtS {t : RT} (h : okT t = true) : okT (Jmq t) = true := by rw [Jhz]; exact Jms h
-- FN (*code.Reader).take
abbrev rdP (z f : Bool) (s : RS) : Ent := .box false 186 (.st 186 [.ro 5 z f s.b, .sc (.int .i64 s.e)])
noncomputable def Jc7 : List PV → List Ent → (Res → Option Res) → Option Res
  | [.ptr 0 [], .sc (.int .i64 n)], [.box false 186 (.st 186 [.ro 5 z f b, .sc (.int .i64 e)])], k =>
    bif (!z || f) && decide (0 ≤ n) then k ⟨.ro 5 (!okS n.toNat ⟨b, e⟩ || z) (!okS n.toNat ⟨b, e⟩ || z) (JeB n.toNat ⟨b, e⟩), [rdP z f (Jb n.toNat ⟨b, e⟩)], []⟩ else none
  | _, _, _ => none
noncomputable def Jj1 : Sig := { own := [], run := Jc7 }
theorem Jmt (z f : Bool) (b : List PV) (e n : Int) (hz : (!z || f) = true) (hn : 0 ≤ n) (k : Res → Option Res) :
    Jmp 0 z f b e n k = k ⟨.ro 5 (!okS n.toNat ⟨b, e⟩ || z) (!okS n.toNat ⟨b, e⟩ || z) (JeB n.toNat ⟨b, e⟩), [rdP z f (Jb n.toNat ⟨b, e⟩)], []⟩ := by
  rw [JqV, Jc5, WO]
  have hzf : (z || f) = f := by cases z <;> cases f <;> simp_all
  have hz2 : (z || f && false) = z := by cases z <;> cases f <;> rfl
  unfold Jmp
  by_cases c1 : n > zi b.length
  · have hk : Nat.ble n.toNat b.length = false := by
      cases h : Nat.ble n.toNat b.length with
      | false => rfl
      | true => rw [Nat.ble_eq] at h; simp only [zi] at c1; omega
    rw [Ja (by simpa using c1)]
    by_cases c2 : e = 0
    · subst c2
      simp only [beq_self_eq_true, cond_true]
      simp [YC, Qx, Qc, hk]
    · have hb : (e == 0) = false := by simpa using c2
      have hb2 : (e != 0) = true := by simpa using c2
      simp only [hb, hb2, cond_true, cond_false]
      simp [YC, Qx, Qc, hb]
  · rw [JA (by simpa using c1)]
    by_cases c2 : e = 0
    · subst c2
      have hk : Nat.ble n.toNat b.length = true := by rw [Nat.ble_eq]; simp only [zi] at c1; omega
      have hk' : n.toNat ≤ b.length := by rw [Nat.ble_eq] at hk; exact hk
      have h00 : ((0 : Int) != 0) = false := by decide
      simp only [h00, cond_false]
      rw [Ja (by simp; omega), Ja (by simp; omega)]
      simp [YC, Qx, Qc, hk, hzf, hz2]
    · have hb : (e == 0) = false := by simpa using c2
      have hb2 : (e != 0) = true := by simpa using c2
      simp only [hb2, cond_true]
      simp [YC, Qx, Qc, hb]
theorem Jj2 : Jh tau Try.prog 156 Jj1 := JtQ.of fun xs es k res hr => by
  change Jc7 xs es k = some res at hr
  unfold Jc7 at hr
  split at hr
  · obtain ⟨hc, hr⟩ := JH hr
    simp only [Bool.and_eq_true, decide_eq_true_eq] at hc
    exact (Jmt _ _ _ _ _ hc.1 hc.2 _).trans hr
  · cases hr
def JbD : Nat := 27
noncomputable def Jj3 : Fns := JG 156 Jj1 (F0)
theorem JhA : Jx tau Try.prog Jj3 := (JE).add Jj2 JoI
noncomputable def Gj : Code := Qs (Try.f155.body.get!) [1, 1, 0, 1, 0, 0]
def Ws : Nm := [(5, .any), (10, .any), (11, .any), (12, .any)]
def WY : Nm := [(5, .any)]
def JaZ : An := (.seq .leaf (.seq (.cond .leaf .leaf) (.seq (.block none (.seq .leaf .leaf)) .leaf)))
def JhB (r0 : QZ) : An := (.seq .leaf (.seq .leaf (.seq (.seq .leaf (.block none (.sum Ws JbD r0))) (.seq .leaf .leaf))))
noncomputable def YE (f : Nat) (rc : Int → Bool → Bool → List PV → Int → Int → Bool → Bool → List PV → Int → Option Res) (k0 : Int → Bool → Bool → List PV → Int → Option Res) (v0 : Int) (v1 : Bool) (v2 : Bool) (v3 : List PV) (v4 : Int) (v5 : Int) (v6 : Bool) (v7 : Bool) (v8 : List PV) (v9 : Int) : Option Res := bif decide (v5 < v4) then bif decide (0 ≤ v5) && decide (v5 < zi v3.length) && PV.isInt IntKind.u8 (v3.getD v5.toNat PV.top) && true then bif decide (0 ≤ IntKind.i64.wrap (8 * v5)) && true then rc (JC BinOp.or IntKind.u64 v0 (Xc IntKind.u64 (IntKind.u64.wrap (v3.getD v5.toNat PV.top).int) (IntKind.i64.wrap (8 * v5)))) v1 v2 v3 v4 (IntKind.i64.wrap (v5 + 1)) v6 v7 v8 v9 else none else none else k0 v0 v6 v7 v8 v9
noncomputable def XN (f : Nat) (k0 : Int → Bool → Bool → List PV → Int → Option Res) : Nat → Int → Bool → Bool → List PV → Int → Int → Bool → Bool → List PV → Int → Option Res
  | 0, _, _, _, _, _, _, _, _, _, _ => none
  | n + 1, v0, v1, v2, v3, v4, v5, v6, v7, v8, v9 => YE f (XN f k0 n) k0 v0 v1 v2 v3 v4 v5 v6 v7 v8 v9
theorem Jj4 (f : Nat) (k : Kont) (n : Nat) (v0 : Int) (v1 : Bool) (v2 : Bool) (v3 : List PV) (v4 : Int) (v5 : Int) (v6 : Bool) (v7 : Bool) (v8 : List PV) (v9 : Int) : Jo tau 1 Ws (fun s k => ev tau Jj3 1 0 Gj (JaZ ) s k) (n + 1) (Jc Ws JbD [.sc (.int .u64 v0), .ro 5 v1 v2 v3, .sc (.int .i64 v4), .sc (.int .i64 v5)] [(0, .box false 186 (PV.st 186 [.ro 5 v6 v7 v8, .sc (.int .i64 v9)]))]) (Jv tau 1 WY k) = YE f (fun v0 v1 v2 v3 v4 v5 v6 v7 v8 v9 => Jo tau 1 Ws (fun s k => ev tau Jj3 1 0 Gj (JaZ ) s k) n (Jc Ws JbD [.sc (.int .u64 v0), .ro 5 v1 v2 v3, .sc (.int .i64 v4), .sc (.int .i64 v5)] [(0, .box false 186 (PV.st 186 [.ro 5 v6 v7 v8, .sc (.int .i64 v9)]))]) (Jv tau 1 WY k)) (fun x0 x1 x2 x3 x4 => k (Ex.exit 0) (Jc WY JbD [.sc (.int .u64 x0)] [(0, .box false 186 (PV.st 186 [.ro 5 x1 x2 x3, .sc (.int .i64 x4)]))])) v0 v1 v2 v3 v4 v5 v6 v7 v8 v9 := by kernel_rfl
theorem JeG (f : Nat) (k : Kont) : ∀ (n : Nat) (v0 : Int) (v1 : Bool) (v2 : Bool) (v3 : List PV) (v4 : Int) (v5 : Int) (v6 : Bool) (v7 : Bool) (v8 : List PV) (v9 : Int), Jo tau 1 Ws (fun s k => ev tau Jj3 1 0 Gj (JaZ ) s k) n (Jc Ws JbD [.sc (.int .u64 v0), .ro 5 v1 v2 v3, .sc (.int .i64 v4), .sc (.int .i64 v5)] [(0, .box false 186 (PV.st 186 [.ro 5 v6 v7 v8, .sc (.int .i64 v9)]))]) (Jv tau 1 WY k) = XN f (fun x0 x1 x2 x3 x4 => k (Ex.exit 0) (Jc WY JbD [.sc (.int .u64 x0)] [(0, .box false 186 (PV.st 186 [.ro 5 x1 x2 x3, .sc (.int .i64 x4)]))])) n v0 v1 v2 v3 v4 v5 v6 v7 v8 v9 | 0, _, _, _, _, _, _, _, _, _, _ => rfl | n + 1, v0, v1, v2, v3, v4, v5, v6, v7, v8, v9 => (Jj4 f k n v0 v1 v2 v3 v4 v5 v6 v7 v8 v9).trans (congrArg (fun r => YE f r (fun x0 x1 x2 x3 x4 => k (Ex.exit 0) (Jc WY JbD [.sc (.int .u64 x0)] [(0, .box false 186 (PV.st 186 [.ro 5 x1 x2 x3, .sc (.int .i64 x4)]))])) v0 v1 v2 v3 v4 v5 v6 v7 v8 v9) (by funext v0 v1 v2 v3 v4 v5 v6 v7 v8 v9; exact JeG f k n v0 v1 v2 v3 v4 v5 v6 v7 v8 v9))
noncomputable def ZU (f : Nat) : List PV → List (Nat × Ent) → Kont → Option Res
  | [.sc (.int .u64 v0), .ro 5 v1 v2 v3, .sc (.int .i64 v4),
  PV.sc
    (Value.int IntKind.i64
      v5)], [(0,
    Ent.box false 186
      (PV.st 186
        [.ro 5 v6 v7 v8,
          PV.sc
            (Value.int IntKind.i64
              v9)]))], k => XN f (fun x0 x1 x2 x3 x4 => k (Ex.exit
  0) (Jc WY JbD [.sc (.int .u64 x0)] [(0, .box false 186 (PV.st 186 [.ro 5 x1 x2 x3, .sc (.int .i64 x4)]))])) f v0 v1 v2 v3 v4 v5 v6 v7 v8 v9
  | _, _, _ => none
theorem Jmu (f : Nat) : Jg Gj JaZ = [] := by kernel_rfl
theorem JqY (f : Nat) : (Item.l Gj Ws JbD (ZU f)).Ok tau Try.prog 1 := JJ Jq JhA Jr (x := JaZ) (nm2 := WY) (Jp _ _ (by rw [Jmu f]; intro q hq; cases hq)) fun vs hp k res hr => by
  unfold ZU at hr
  split at hr
  · exact ⟨f, 0, (JeG f _ f _ _ _ _ _ _ _ _ _ _ ).trans hr⟩
  · cases hr
noncomputable def JqZ (f : Nat) (r_b_z : Bool) (r_b_f : Bool) (r_b : List PV) (r_e : Int) (n : Int) (k : Res → Option Res) : Option Res := bif (!r_b_z || r_b_f) && decide (0 ≤ n) then XN f (fun x0_0 x1_0 x2_0 x3_0 x4_0 => k (Res.mk (.sc (.int .i64 (IntKind.i64.wrap x0_0))) [.box false 186 (PV.st 186 [.ro 5 x1_0 x2_0 x3_0, .sc (.int .i64 x4_0)])] [])) f (0) (!okS n.toNat (RS.mk r_b r_e) || r_b_z) (!okS n.toNat (RS.mk r_b r_e) || r_b_z) (JeB n.toNat (RS.mk r_b r_e)) (zi (JeB n.toNat (RS.mk r_b r_e)).length) (0) r_b_z r_b_f ((Jb n.toNat (RS.mk r_b r_e)).b) ((Jb n.toNat (RS.mk r_b r_e)).e) else none
theorem JyJ (f : Nat) (r_b_z : Bool) (r_b_f : Bool) (r_b : List PV) (r_e : Int) (n : Int) (k : Res → Option Res) : JM tau Jj3 Try.f155 (Try.f155.body.get!) (JhB (ZU f)) [.ro] 0 [.ptr 0 [], .sc (.int .i64 n)] [.box false 186 (.st 186 [.ro 5 r_b_z r_b_f r_b, .sc (.int .i64 r_e)])] k = JqZ f r_b_z r_b_f r_b r_e n k := by kernel_rfl
theorem JtT (f : Nat) : Jg (Try.f155.body.get!) (JhB (ZU f)) = [.l Gj Ws JbD (ZU f)] := by kernel_rfl
theorem JtU (f : Nat) : ∀ q ∈ Jg (Try.f155.body.get!) (JhB (ZU f)), q.Ok tau Try.prog 1 := by
  rw [JtT f]; simp only [List.forall_mem_cons, List.not_mem_nil, false_implies, implies_true, and_true]; exact JqY f
theorem JoJ : Try.prog.funcs[155]? = some Try.f155 := by kernel_rfl
theorem JoK : Try.f155.body = some (Try.f155.body.get!) := by kernel_rfl
theorem Jj5 : Enters Try.prog 155 := enters_of JoJ (by kernel_rfl) JoK
-- FN (*code.Reader).number
theorem Jb9 : ∀ (l : List Int) (x : Int), Xd (l ++ [x]) = Xd l + x * 256 ^ l.length
  | [], x => by simp [Xd]
  | y :: r, x => by
      simp only [List.cons_append, Xd, Jb9 r x, List.length_cons, Int.pow_succ]
      have : x * (256 ^ r.length * 256) = 256 * (x * 256 ^ r.length) := by rw [Int.mul_comm 256, Int.mul_assoc]
      omega
theorem Jj6 (i : Nat) : (256 : Int) ^ i = 2 ^ (8 * i) := by rw [Int.pow_mul]; rfl
theorem Jj7 {v y : Int} {j : Nat} (hj : j ≤ 64) (hv0 : 0 ≤ v) (hv : v < 2 ^ j) (hy0 : 0 ≤ y) (hy : y * 2 ^ j < 2 ^ 64) : JC .or .u64 v (y * 2 ^ j) = v + y * 2 ^ j := by
  obtain ⟨a, rfl⟩ := Int.eq_ofNat_of_zero_le hv0
  obtain ⟨b, rfl⟩ := Int.eq_ofNat_of_zero_le hy0
  have e1 : ((b : Int)) * 2 ^ j = ((b * 2 ^ j : Nat) : Int) := by rw [Int.natCast_mul, Int.natCast_pow]; rfl
  have e2 : ((2 : Int)) ^ j = ((2 ^ j : Nat) : Int) := by rw [Int.natCast_pow]; rfl
  have e3 : ((2 : Int)) ^ 64 = ((2 ^ 64 : Nat) : Int) := by rw [Int.natCast_pow]; rfl
  rw [e2] at hv
  rw [e1, e3] at hy
  have ha : a < 2 ^ j := Int.ofNat_lt.1 hv
  have hb : b * 2 ^ j < 2 ^ 64 := Int.ofNat_lt.1 hy
  rw [e1]
  have hor : a ||| b * 2 ^ j = a + b * 2 ^ j := by
    have h := Nat.shiftLeft_add_eq_or_of_lt ha b
    rw [Nat.shiftLeft_eq] at h
    rw [Nat.or_comm, ← h, Nat.add_comm]
  have ha2 : a < 2 ^ 64 := Nat.lt_of_lt_of_le ha (Nat.pow_le_pow_right (by omega) hj)
  have hsum : a + b * 2 ^ j < 2 ^ 64 := by rw [← hor]; exact Nat.or_lt_two_pow ha2 hb
  generalize hc : b * 2 ^ j = c at *
  have ht : (BitVec.ofInt 64 (a : Int) ||| BitVec.ofInt 64 (c : Int)).toNat = a + c := by
    rw [BitVec.toNat_or, BitVec.ofInt_natCast, BitVec.ofInt_natCast, BitVec.toNat_ofNat, BitVec.toNat_ofNat, Nat.mod_eq_of_lt ha2, Nat.mod_eq_of_lt hb, hor]
  show IntKind.u64.wrap ((BitVec.ofInt 64 (a : Int) ||| BitVec.ofInt 64 (c : Int)).toNat : Int) = _
  rw [ht, QT]
  have h64 : (2 : Nat) ^ 64 = 18446744073709551616 := by decide
  rw [h64] at hsum
  omega
theorem Jj8 {x : Int} (h0 : 0 ≤ x) (h1 : x < 256) {i : Nat} (hi : i < 8) : Xc .u64 (IntKind.u64.wrap x) (8 * (i : Int)) = x * 2 ^ (8 * i) := by
  rw [QT, Int.emod_eq_of_lt h0 (by omega), Xc, QT]
  have : min (8 * (i : Int)).toNat IntKind.u64.bits = 8 * i := by
    have : IntKind.u64.bits = 64 := rfl
    rw [this]; omega
  rw [this]
  have hp : (2 : Int) ^ (8 * i) ≤ 2 ^ 56 := by
    have h : (2 ^ (8 * i) : Nat) ≤ 2 ^ 56 := Nat.pow_le_pow_right (by omega) (by omega)
    have e2 : ((2 : Int)) ^ (8 * i) = ((2 ^ (8 * i) : Nat) : Int) := by rw [Int.natCast_pow]; rfl
    have e3 : ((2 : Int)) ^ 56 = ((2 ^ 56 : Nat) : Int) := by rw [Int.natCast_pow]; rfl
    rw [e2, e3]; exact Int.ofNat_le.2 h
  have hp0 : (0 : Int) ≤ 2 ^ (8 * i) := Int.le_of_lt (by have e2 : ((2 : Int)) ^ (8 * i) = ((2 ^ (8 * i) : Nat) : Int) := by rw [Int.natCast_pow]; rfl
                                                         rw [e2]; exact Int.ofNat_lt.2 (Nat.two_pow_pos _))
  have h56 : (2 : Int) ^ 56 = 72057594037927936 := by decide
  rw [h56] at hp
  have hm : x * 2 ^ (8 * i) ≤ 255 * 2 ^ (8 * i) := Int.mul_le_mul_of_nonneg_right (by omega) hp0
  have hm0 : 0 ≤ x * 2 ^ (8 * i) := Int.mul_nonneg h0 hp0
  exact Int.emod_eq_of_lt hm0 (by omega)
theorem Jj9 (L : List Int) (hL : ∀ x ∈ L, 0 ≤ x ∧ x < 256) (h8 : L.length ≤ 8) (f : Nat) (k0 : Int → Bool → Bool → List PV → Int → Option Res) (a b c d : Bool) (R : List PV) (e : Int) : ∀ (dd i n : Nat), i + dd = L.length → dd < n →
    XN f k0 n (Xd (L.take i)) a b (pu .u8 L) (L.length : Int) (i : Int) c d R e = k0 (Xd L) c d R e
  | 0, i, n + 1, h, hn => by
      obtain rfl : i = L.length := by omega
      simp only [XN, YE, List.take_length]
      exact JA (by simp)
  | dd + 1, i, n + 1, h, hn => by
      have g1 : ((i : Int)).toNat = i := by omega
      have h1 : IntKind.i64.wrap ((i : Int) + 1) = ((i + 1 : Nat) : Int) := by rw [wrap_i64 (by omega) (by omega)]; omega
      have h2 : IntKind.i64.wrap (8 * (i : Int)) = 8 * (i : Int) := wrap_i64 (by omega) (by omega)
      have hi : i < L.length := by omega
      have hx := hL (L.getD i 0) (by rw [List.getD_eq_getElem?_getD, List.getElem?_eq_getElem hi]; exact List.getElem_mem hi)
      simp only [XN, YE, g1, h1, h2]
      rw [JU hi, Qj hi]
      refine (Ja (by simp; omega)).trans ((Ja (by simp [zi]; omega)).trans ((Ja (by simp; omega)).trans ?_))
      have ht : L.take (i + 1) = L.take i ++ [L.getD i 0] := by
        rw [List.take_add_one, List.getD_eq_getElem?_getD, List.getElem?_eq_getElem hi]; rfl
      have hb := YD (L.take i) fun x hx => hL x (List.mem_of_mem_take hx)
      have hlen : (L.take i).length = i := by rw [List.length_take]; omega
      rw [hlen, Jj6] at hb
      have hs := Jj8 hx.1 hx.2 (i := i) (by omega)
      have hlt : L.getD i 0 * 2 ^ (8 * i) < 2 ^ 64 := by
        have hp : (2 : Int) ^ (8 * i) ≤ 2 ^ 56 := by
          have h : (2 ^ (8 * i) : Nat) ≤ 2 ^ 56 := Nat.pow_le_pow_right (by omega) (by omega)
          have e2 : ((2 : Int)) ^ (8 * i) = ((2 ^ (8 * i) : Nat) : Int) := by rw [Int.natCast_pow]; rfl
          have e3 : ((2 : Int)) ^ 56 = ((2 ^ 56 : Nat) : Int) := by rw [Int.natCast_pow]; rfl
          rw [e2, e3]; exact Int.ofNat_le.2 h
        have hp0 : (0 : Int) ≤ 2 ^ (8 * i) := by omega
        have h56 : (2 : Int) ^ 56 = 72057594037927936 := by decide
        have h64 : (2 : Int) ^ 64 = 18446744073709551616 := by decide
        rw [h56] at hp; rw [h64]
        have hm : L.getD i 0 * 2 ^ (8 * i) ≤ 255 * 2 ^ (8 * i) := Int.mul_le_mul_of_nonneg_right (by omega) hp0
        omega
      rw [hs, Jj7 (by omega) hb.1 hb.2 hx.1 hlt]
      have hn1 : Xd (L.take i) + L.getD i 0 * 2 ^ (8 * i) = Xd (L.take (i + 1)) := by
        rw [ht, Jb9, hlen, Jj6]
      rw [hn1]
      exact Jj9 L hL h8 f k0 a b c d R e dd (i + 1) n (by omega) (by omega)
noncomputable def Jc8 : List PV → List Ent → (Res → Option Res) → Option Res
  | [.ptr 0 [], .sc (.int .i64 n)], [.box false 186 (.st 186 [.ro 5 z f b, .sc (.int .i64 e)])], k =>
    bif (!z || f) && (decide (0 ≤ n) && decide (n ≤ 8)) && byB b then k ⟨.sc (.int .i64 (Jz n.toNat ⟨b, e⟩)), [rdP z f (Jb n.toNat ⟨b, e⟩)], []⟩ else none
  | _, _, _ => none
noncomputable def JhC : Sig := { own := [], run := Jc8 }
theorem Jmv (z f : Bool) (b : List PV) (e n : Int) (hz : (!z || f) = true) (hn : 0 ≤ n) (hn8 : n ≤ 8) (hb : byB b = true) (k : Res → Option Res) :
    JqZ 20 z f b e n k = k ⟨.sc (.int .i64 (Jz n.toNat ⟨b, e⟩)), [rdP z f (Jb n.toNat ⟨b, e⟩)], []⟩ := by
  unfold JqZ
  rw [Ja (by rw [hz]; simpa using hn), WX, Jc5]
  have ho : byB (Qx n.toNat ⟨b, e⟩) = true := Jc6 hb _
  have hoi := Q9.1 ho
  have hl : (Jf (Qx n.toNat ⟨b, e⟩)).length ≤ 8 := by rw [QS]; exact Nat.le_trans (ZT _ _) (by omega)
  have hL := Jj9 (Jf (Qx n.toNat ⟨b, e⟩)) hoi.2 hl 20 (fun x0_0 x1_0 x2_0 x3_0 x4_0 => k (Res.mk (.sc (.int .i64 (IntKind.i64.wrap x0_0))) [.box false 186 (.st 186 [.ro 5 x1_0 x2_0 x3_0, .sc (.int .i64 x4_0)])] [])) (!okS n.toNat ⟨b, e⟩ || z) (!okS n.toNat ⟨b, e⟩ || z) z f (Jb n.toNat ⟨b, e⟩).b (Jb n.toNat ⟨b, e⟩).e (Jf (Qx n.toNat ⟨b, e⟩)).length 0 20 (by omega) (by omega)
  rw [← Qb hoi.1, QS] at hL
  simp only [List.take_zero, Xd] at hL
  exact hL
theorem Jgc : Jh tau Try.prog 155 JhC := Jh.mk' fun xs es k res hl hr => by
  change Jc8 xs es k = some res at hr
  unfold Jc8 at hr
  split at hr
  · rename_i n z f b e
    obtain ⟨hc, hr⟩ := JH hr
    simp only [Bool.and_eq_true, decide_eq_true_eq] at hc
    exact Ql Jq JhA Jr JoJ JoK (JhB (ZU 20)) [.ro] 1 0 (JtU 20) hl rfl ((JyJ 20 z f b e n k).trans ((Jmv z f b e n hc.1.1 hc.1.2.1 hc.1.2.2 hc.2 k).trans hr))
  · cases hr
noncomputable def JtV : Fns := JG 155 JhC (F0)
theorem Jmw : Jx tau Try.prog JtV := (JE).add Jgc Jj5
def JhD : An := (.seq .leaf (.seq .leaf .leaf))
noncomputable def JtW (f : Nat) (r_b_z : Bool) (r_b_f : Bool) (r_b : List PV) (r_e : Int) (k : Res → Option Res) : Option Res := bif (!r_b_z || r_b_f) && true && byB r_b then k (Res.mk (.sc (.int .i64 (Jz 8 (RS.mk r_b r_e)))) [.box false 186 (PV.st 186 [.ro 5 r_b_z r_b_f (Jb 8 (RS.mk r_b r_e)).b, .sc (.int .i64 (Jb 8 (RS.mk r_b r_e)).e)])] []) else none
theorem JyK (f : Nat) (r_b_z : Bool) (r_b_f : Bool) (r_b : List PV) (r_e : Int) (k : Res → Option Res) : JM tau JtV Try.f132 (Try.f132.body.get!) JhD [.ro] 0 [.ptr 0 []] [.box false 186 (.st 186 [.ro 5 r_b_z r_b_f r_b, .sc (.int .i64 r_e)])] k = JtW f r_b_z r_b_f r_b r_e k := by kernel_rfl
theorem JtX (f : Nat) : Jg (Try.f132.body.get!) JhD = [] := by kernel_rfl
theorem JtY (f : Nat) : ∀ q ∈ Jg (Try.f132.body.get!) JhD, q.Ok tau Try.prog 1 := by
  rw [JtX f]; intro q hq; cases hq
theorem JoL : Try.prog.funcs[132]? = some Try.f132 := by kernel_rfl
theorem JoM : Try.f132.body = some (Try.f132.body.get!) := by kernel_rfl
theorem JoN : Enters Try.prog 132 := enters_of JoL (by kernel_rfl) JoM
noncomputable def Jgd : List PV → List Ent → (Res → Option Res) → Option Res
  | [.ptr 0 []], [.box false 186 (.st 186 [.ro 5 r_b_z r_b_f r_b, .sc (.int .i64 r_e)])], k => JtW 0 r_b_z r_b_f r_b r_e k
  | _, _, _ => none
noncomputable def Jq0 : Sig := { own := [], run := Jgd }
theorem JoO : Jh tau Try.prog 132 Jq0 := JY Jq Jmw Jr JoL JoM JhD [.ro] 1 [] Jgd (JtY 0) fun xs es k res hr => by
  unfold Jgd at hr
  split at hr
  · exact ⟨rfl, 0, (JyK 0 _ _ _ _  _).trans hr⟩
  · cases hr
noncomputable def JtZ : Fns := JG 155 JhC (F0)
theorem Jmx : Jx tau Try.prog JtZ := (JE).add Jgc Jj5
def JhE : An := (.seq .leaf (.seq .leaf .leaf))
noncomputable def Jt0 (f : Nat) (r_b_z : Bool) (r_b_f : Bool) (r_b : List PV) (r_e : Int) (k : Res → Option Res) : Option Res := bif (!r_b_z || r_b_f) && true && byB r_b then k (Res.mk (.sc (.int .i64 (Jz 1 (RS.mk r_b r_e)))) [.box false 186 (PV.st 186 [.ro 5 r_b_z r_b_f (Jb 1 (RS.mk r_b r_e)).b, .sc (.int .i64 (Jb 1 (RS.mk r_b r_e)).e)])] []) else none
theorem JyL (f : Nat) (r_b_z : Bool) (r_b_f : Bool) (r_b : List PV) (r_e : Int) (k : Res → Option Res) : JM tau JtZ Try.f133 (Try.f133.body.get!) JhE [.ro] 0 [.ptr 0 []] [.box false 186 (.st 186 [.ro 5 r_b_z r_b_f r_b, .sc (.int .i64 r_e)])] k = Jt0 f r_b_z r_b_f r_b r_e k := by kernel_rfl
theorem Jt1 (f : Nat) : Jg (Try.f133.body.get!) JhE = [] := by kernel_rfl
theorem Jt2 (f : Nat) : ∀ q ∈ Jg (Try.f133.body.get!) JhE, q.Ok tau Try.prog 1 := by
  rw [Jt1 f]; intro q hq; cases hq
theorem JoP : Try.prog.funcs[133]? = some Try.f133 := by kernel_rfl
theorem JoQ : Try.f133.body = some (Try.f133.body.get!) := by kernel_rfl
theorem JoR : Enters Try.prog 133 := enters_of JoP (by kernel_rfl) JoQ
noncomputable def Jge : List PV → List Ent → (Res → Option Res) → Option Res
  | [.ptr 0 []], [.box false 186 (.st 186 [.ro 5 r_b_z r_b_f r_b, .sc (.int .i64 r_e)])], k => Jt0 0 r_b_z r_b_f r_b r_e k
  | _, _, _ => none
noncomputable def Jq1 : Sig := { own := [], run := Jge }
theorem JoS : Jh tau Try.prog 133 Jq1 := JY Jq Jmx Jr JoP JoQ JhE [.ro] 1 [] Jge (Jt2 0) fun xs es k res hr => by
  unfold Jge at hr
  split at hr
  · exact ⟨rfl, 0, (JyL 0 _ _ _ _  _).trans hr⟩
  · cases hr
noncomputable def Jt3 : Fns := JG 156 Jj1 (JG 155 JhC (F0))
theorem Jmy : Jx tau Try.prog Jt3 := ((JE).add Jgc Jj5).add Jj2 JoI
def JhF : An := (.seq .leaf (.seq .leaf (.seq .leaf .leaf)))
noncomputable def Jmz (f : Nat) (r_b_z : Bool) (r_b_f : Bool) (r_b : List PV) (r_e : Int) (k : Res → Option Res) : Option Res := bif (!r_b_z || r_b_f) && true && byB r_b then bif (!r_b_z || r_b_f) && decide (0 ≤ Jz 2 (RS.mk r_b r_e)) then bif Je IntKind.u8 (JeB (Jz 2 (RS.mk r_b r_e)).toNat (Jb 2 (RS.mk r_b r_e))) && true then k (Res.mk (.sc (.string (ByteArray.mk (Array.mk (Jn (!okS (Jz 2 (RS.mk r_b r_e)).toNat (RS.mk (Jb 2 (RS.mk r_b r_e)).b (Jb 2 (RS.mk r_b r_e)).e) || r_b_z, JeB (Jz 2 (RS.mk r_b r_e)).toNat (Jb 2 (RS.mk r_b r_e))).snd))))) [.box false 186 (PV.st 186 [.ro 5 r_b_z r_b_f (Jb (Jz 2 (RS.mk r_b r_e)).toNat (Jb 2 (RS.mk r_b r_e))).b, .sc (.int .i64 (Jb (Jz 2 (RS.mk r_b r_e)).toNat (Jb 2 (RS.mk r_b r_e))).e)])] []) else none else none else none
theorem JyM (f : Nat) (r_b_z : Bool) (r_b_f : Bool) (r_b : List PV) (r_e : Int) (k : Res → Option Res) : JM tau Jt3 Try.f135 (Try.f135.body.get!) JhF [.ro] 0 [.ptr 0 []] [.box false 186 (.st 186 [.ro 5 r_b_z r_b_f r_b, .sc (.int .i64 r_e)])] k = Jmz f r_b_z r_b_f r_b r_e k := by kernel_rfl
theorem Jt4 (f : Nat) : Jg (Try.f135.body.get!) JhF = [] := by kernel_rfl
theorem Jt5 (f : Nat) : ∀ q ∈ Jg (Try.f135.body.get!) JhF, q.Ok tau Try.prog 1 := by
  rw [Jt4 f]; intro q hq; cases hq
theorem JoT : Try.prog.funcs[135]? = some Try.f135 := by kernel_rfl
theorem JoU : Try.f135.body = some (Try.f135.body.get!) := by kernel_rfl
theorem JoV : Enters Try.prog 135 := enters_of JoT (by kernel_rfl) JoU
noncomputable def Jgf : List PV → List Ent → (Res → Option Res) → Option Res
  | [.ptr 0 []], [.box false 186 (.st 186 [.ro 5 r_b_z r_b_f r_b, .sc (.int .i64 r_e)])], k => Jmz 0 r_b_z r_b_f r_b r_e k
  | _, _, _ => none
noncomputable def JyN : Sig := { own := [], run := Jgf }
theorem Jt6 : Jh tau Try.prog 135 JyN := JY Jq Jmy Jr JoT JoU JhF [.ro] 1 [] Jgf (Jt5 0) fun xs es k res hr => by
  unfold Jgf at hr
  split at hr
  · exact ⟨rfl, 0, (JyM 0 _ _ _ _  _).trans hr⟩
  · cases hr
-- FN (*code.Reader).Text
noncomputable def Jc9 : List PV → List Ent → (Res → Option Res) → Option Res
  | [.ptr 0 []], [.box false 186 (.st 186 [.ro 5 z f b, .sc (.int .i64 e)])], k =>
    bif (!z || f) && byB b then k ⟨.sc (.string (JP ⟨b, e⟩)), [rdP z f (J3 ⟨b, e⟩)], []⟩ else none
  | _, _, _ => none
noncomputable def Jka : Sig := { own := [], run := Jc9 }
theorem Jkb : Jh tau Try.prog 135 Jka := Jt6.of fun xs es k res hr => by
  change Jc9 xs es k = some res at hr
  unfold Jc9 at hr
  split at hr
  · rename_i z f b e
    obtain ⟨hc, hr⟩ := JH hr
    simp only [Bool.and_eq_true] at hc
    show Jmz 0 z f b e k = some res
    have hn := (XL (s := ⟨b, e⟩) hc.2 (n := 2) (by omega)).1
    have ho := (Q9.1 (Jc6 (s := Qc 2 ⟨b, e⟩) (Xs (s := ⟨b, e⟩) hc.2 2) (Wh 2 ⟨b, e⟩).toNat)).1
    unfold Jmz
    simp only [WX, WO, Jc5]
    rw [Ja (by rw [hc.1, hc.2]; rfl), Ja (by rw [hc.1]; simpa using hn), Ja (by rw [ho]; rfl)]
    rw [Jal, Jak] at hr
    exact hr
  · cases hr




-- FN (*ref1.Reader).take



-- FN (*ref1.Reader).Int | (*ref1.Reader).Byte | (*ref1.Reader).Text

noncomputable def Jt7 : Fns := F0
theorem JmA : Jx tau Try.prog Jt7 := JE
def JhG : An := (.seq .leaf (.seq .leaf (.seq .leaf .leaf)))
noncomputable def Jt8 (f : Nat) (x : Int) (k1 : Int) (k : Res → Option Res) : Option Res := bif decide (0 ≤ IntKind.u64.wrap (32 - JC BinOp.and IntKind.u64 (IntKind.u64.wrap k1) 31)) && true then k (Res.mk (.sc (.int .u32 (JC BinOp.or IntKind.u32 (Xc IntKind.u32 x (JC BinOp.and IntKind.u64 (IntKind.u64.wrap k1) 31)) (Jw IntKind.u32 x (IntKind.u64.wrap (32 - JC BinOp.and IntKind.u64 (IntKind.u64.wrap k1) 31)))))) [] []) else none
theorem JyO (f : Nat) (x : Int) (k1 : Int) (k : Res → Option Res) : JM tau Jt7 Try.f149 (Try.f149.body.get!) JhG [.ro] 0 [.sc (.int .u32 x), .sc (.int .i64 k1)] [] k = Jt8 f x k1 k := by kernel_rfl
theorem Jt9 (f : Nat) : Jg (Try.f149.body.get!) JhG = [] := by kernel_rfl
theorem Jua (f : Nat) : ∀ q ∈ Jg (Try.f149.body.get!) JhG, q.Ok tau Try.prog 0 := by
  rw [Jt9 f]; intro q hq; cases hq
theorem JoW : Try.prog.funcs[149]? = some Try.f149 := by kernel_rfl
theorem JoX : Try.f149.body = some (Try.f149.body.get!) := by kernel_rfl
theorem Jub : Enters Try.prog 149 := enters_of JoW (by kernel_rfl) JoX
noncomputable def Jgg : List PV → List Ent → (Res → Option Res) → Option Res
  | [.sc (.int .u32 x), .sc (.int .i64 k1)], [], k => Jt8 0 x k1 k
  | _, _, _ => none
noncomputable def Juc : Sig := { own := [], run := Jgg }
theorem Jud : Jh tau Try.prog 149 Juc := JY Jq JmA Jr JoW JoX JhG [.ro] 0 [] Jgg (Jua 0) fun xs es k res hr => by
  unfold Jgg at hr
  split at hr
  · exact ⟨rfl, 0, (JyO 0 _ _  _).trans hr⟩
  · cases hr
noncomputable def Jue : Fns := JG 149 Juc (F0)
theorem JmB : Jx tau Try.prog Jue := (JE).add Jud Jub
def JhH : An := (.seq .leaf (.seq .leaf .leaf))
noncomputable def JmC (f : Nat) (x : Int) (n : Int) (k : Res → Option Res) : Option Res := bif decide (0 ≤ IntKind.u64.wrap (32 - JC BinOp.and IntKind.u64 (IntKind.u64.wrap (IntKind.i64.wrap (0 - n))) 31)) && true then k (Res.mk (.sc (.int .u32 (JC BinOp.or IntKind.u32 (Xc IntKind.u32 x (JC BinOp.and IntKind.u64 (IntKind.u64.wrap (IntKind.i64.wrap (0 - n))) 31)) (Jw IntKind.u32 x (IntKind.u64.wrap (32 - JC BinOp.and IntKind.u64 (IntKind.u64.wrap (IntKind.i64.wrap (0 - n))) 31)))))) [] []) else none
theorem JyP (f : Nat) (x : Int) (n : Int) (k : Res → Option Res) : JM tau Jue Try.f124 (Try.f124.body.get!) JhH [.ro] 0 [.sc (.int .u32 x), .sc (.int .i64 n)] [] k = JmC f x n k := by kernel_rfl
theorem Juf (f : Nat) : Jg (Try.f124.body.get!) JhH = [] := by kernel_rfl
theorem Jug (f : Nat) : ∀ q ∈ Jg (Try.f124.body.get!) JhH, q.Ok tau Try.prog 0 := by
  rw [Juf f]; intro q hq; cases hq
theorem JoY : Try.prog.funcs[124]? = some Try.f124 := by kernel_rfl
theorem JoZ : Try.f124.body = some (Try.f124.body.get!) := by kernel_rfl
theorem Jo0 : Enters Try.prog 124 := enters_of JoY (by kernel_rfl) JoZ
noncomputable def Jgh : List PV → List Ent → (Res → Option Res) → Option Res
  | [.sc (.int .u32 x), .sc (.int .i64 n)], [], k => JmC 0 x n k
  | _, _, _ => none
noncomputable def JyQ : Sig := { own := [], run := Jgh }
theorem Juh : Jh tau Try.prog 124 JyQ := JY Jq JmB Jr JoY JoZ JhH [.ro] 0 [] Jgh (Jug 0) fun xs es k res hr => by
  unfold Jgh at hr
  split at hr
  · exact ⟨rfl, 0, (JyP 0 _ _  _).trans hr⟩
  · cases hr
noncomputable def F73 : Fns := F0
theorem Jq2 : Jx tau Try.prog F73 := JE
def JmD : An := (.seq .leaf (.seq .leaf .leaf))
noncomputable def g73 (f : Nat) (x : Int) (n : Int) (k : Res → Option Res) : Option Res := bif decide (0 ≤ n) && true then bif decide (0 ≤ IntKind.u64.wrap (32 - n)) && true then k (Res.mk (.sc (.int .u32 (JC BinOp.or IntKind.u32 (Jw IntKind.u32 x n) (Xc IntKind.u32 x (IntKind.u64.wrap (32 - n)))))) [] []) else none else none
theorem e73 (f : Nat) (x : Int) (n : Int) (k : Res → Option Res) : JM tau F73 Try.f73 (Try.f73.body.get!) JmD [.ro] 0 [.sc (.int .u32 x), .sc (.int .u64 n)] [] k = g73 f x n k := by kernel_rfl
theorem JyR (f : Nat) : Jg (Try.f73.body.get!) JmD = [] := by kernel_rfl
theorem JyS (f : Nat) : ∀ q ∈ Jg (Try.f73.body.get!) JmD, q.Ok tau Try.prog 0 := by
  rw [JyR f]; intro q hq; cases hq
theorem Jui : Try.prog.funcs[73]? = some Try.f73 := by kernel_rfl
theorem Juj : Try.f73.body = some (Try.f73.body.get!) := by kernel_rfl
theorem JyT : Enters Try.prog 73 := enters_of Jui (by kernel_rfl) Juj
noncomputable def Jkc : List PV → List Ent → (Res → Option Res) → Option Res
  | [.sc (.int .u32 x), .sc (.int .u64 n)], [], k => g73 0 x n k
  | _, _, _ => none
noncomputable def s73 : Sig := { own := [], run := Jkc }
theorem JyU : Jh tau Try.prog 73 s73 := JY Jq Jq2 Jr Jui Juj JmD [.ro] 0 [] Jkc (JyS 0) fun xs es k res hr => by
  unfold Jkc at hr
  split at hr
  · exact ⟨rfl, 0, (e73 0 _ _  _).trans hr⟩
  · cases hr
-- FN sha.right | ref2.rot
def rr (x n : Int) : Int := JC .or .u32 (Xc .u32 x (32 - n)) (Jw .u32 x n)
theorem Jda (x y : Int) : JC .or .u32 x y = JC .or .u32 y x := by
  simp only [JC]; rw [BitVec.or_comm]
theorem Jkd {P : Int → Prop} (h : ∀ m : Nat, m < 31 → P ((m : Int) + 1)) (n : Int) (h1 : 1 ≤ n) (h2 : n ≤ 31) : P n := by
  have := h (n - 1).toNat (by omega)
  have he : (((n - 1).toNat : Nat) : Int) + 1 = n := by omega
  rwa [he] at this
def Jdb : List PV → List Ent → (Res → Option Res) → Option Res
  | [.sc (.int .u32 x), .sc (.int .i64 n)], [], k => bif decide (1 ≤ n) && decide (n ≤ 31) then k ⟨.sc (.int .u32 (rr x n)), [], []⟩ else none
  | _, _, _ => none
def Jke : Sig := { own := [], run := Jdb }
theorem Jgi (x : Int) (k : Res → Option Res) (n : Int) (h1 : 1 ≤ n) (h2 : n ≤ 31) : JmC 0 x n k = k ⟨.sc (.int .u32 (rr x n)), [], []⟩ := by
  refine Jkd (P := fun n => JmC 0 x n k = k ⟨.sc (.int .u32 (rr x n)), [], []⟩) ?_ n h1 h2
  intro m hm
  iterate 31 (rcases m with _ | m; · kernel_rfl)
  omega
theorem Jkf : Jh tau Try.prog 124 Jke := Juh.of fun xs es k res hr => by
  change Jdb xs es k = some res at hr
  unfold Jdb at hr
  split at hr
  · obtain ⟨hc, hr⟩ := JH hr
    simp only [Bool.and_eq_true, decide_eq_true_eq] at hc
    exact (Jgi _ _ _ hc.1 hc.2).trans hr
  · cases hr
def Jgj : List PV → List Ent → (Res → Option Res) → Option Res
  | [.sc (.int .u32 x), .sc (.int .u64 n)], [], k => bif decide (1 ≤ n) && decide (n ≤ 31) then k ⟨.sc (.int .u32 (rr x n)), [], []⟩ else none
  | _, _, _ => none
def Juk : Sig := { own := [], run := Jgj }
theorem Jjb (x : Int) (k : Res → Option Res) (n : Int) (h1 : 1 ≤ n) (h2 : n ≤ 31) : g73 0 x n k = k ⟨.sc (.int .u32 (rr x n)), [], []⟩ := by
  have hc : ∀ n, rr x n = JC .or .u32 (Jw .u32 x n) (Xc .u32 x (32 - n)) := fun n => Jda _ _
  rw [hc]
  refine Jkd (P := fun n => g73 0 x n k = k ⟨.sc (.int .u32 (JC .or .u32 (Jw .u32 x n) (Xc .u32 x (32 - n)))), [], []⟩) ?_ n h1 h2
  intro m hm
  iterate 31 (rcases m with _ | m; · kernel_rfl)
  omega
theorem Jul : Jh tau Try.prog 73 Juk := JyU.of fun xs es k res hr => by
  change Jgj xs es k = some res at hr
  unfold Jgj at hr
  split at hr
  · obtain ⟨hc, hr⟩ := JH hr
    simp only [Bool.and_eq_true, decide_eq_true_eq] at hc
    exact (Jjb _ _ _ hc.1 hc.2).trans hr
  · cases hr
def Xt : Nat := 89
noncomputable def JeH : Fns := JG 124 Jke (F0)
theorem Jdc : Jx tau Try.prog JeH := (JE).add Jkf Jo0
noncomputable def Gk : Code := Qs (Try.f122.body.get!) [1, 1, 0, 1, 0, 0]
def Wt : Nm := [(0, .any), (2, .any), (3, .any), (8, .any)]
def WZ : Nm := [(2, .any), (3, .any)]
def Ja0 : An := (.seq .leaf (.seq (.cond .leaf .leaf) (.seq (.block none (.seq .leaf .leaf)) .leaf)))
noncomputable def Gl : Code := Qs (Try.f122.body.get!) [1, 1, 1, 0, 1, 0, 0]
def Wu : Nm := [(2, .any), (3, .any), (5, .any)]
def W0 : Nm := [(2, .any), (3, .any)]
def Ja1 : An := (.seq (.seq .leaf (.cond .leaf .leaf)) (.seq (.block none (.seq .leaf .leaf)) .leaf))
def Jkg (r0 : QZ) (r1 : QZ) : An := (.seq .leaf (.seq .leaf (.seq (.seq .leaf (.block none (.sum Wt Xt r0))) (.seq (.seq .leaf (.block none (.sum Wu Xt r1))) (.seq .leaf .leaf)))))
noncomputable def YF (f : Nat) (rc : Bool → Bool → List PV → Int → List PV → List PV → Option Res) (k0 : List PV → List PV → Option Res) (v0 : Bool) (v1 : Bool) (v2 : List PV) (v3 : Int) (v4 : List PV) (v5 : List PV) : Option Res := bif decide (v3 < 16) then bif decide (0 ≤ IntKind.i64.wrap (4 * v3)) && decide (IntKind.i64.wrap (4 * v3) < zi v2.length) && PV.isInt IntKind.u8 (v2.getD (IntKind.i64.wrap (4 * v3)).toNat PV.top) && true then bif decide (0 ≤ IntKind.i64.wrap (IntKind.i64.wrap (4 * v3) + 1)) && decide (IntKind.i64.wrap (IntKind.i64.wrap (4 * v3) + 1) < zi v2.length) && PV.isInt IntKind.u8 (v2.getD (IntKind.i64.wrap (IntKind.i64.wrap (4 * v3) + 1)).toNat PV.top) && true then bif decide (0 ≤ IntKind.i64.wrap (IntKind.i64.wrap (4 * v3) + 2)) && decide (IntKind.i64.wrap (IntKind.i64.wrap (4 * v3) + 2) < zi v2.length) && PV.isInt IntKind.u8 (v2.getD (IntKind.i64.wrap (IntKind.i64.wrap (4 * v3) + 2)).toNat PV.top) && true then bif decide (0 ≤ IntKind.i64.wrap (IntKind.i64.wrap (4 * v3) + 3)) && decide (IntKind.i64.wrap (IntKind.i64.wrap (4 * v3) + 3) < zi v2.length) && PV.isInt IntKind.u8 (v2.getD (IntKind.i64.wrap (IntKind.i64.wrap (4 * v3) + 3)).toNat PV.top) && true then bif decide (0 ≤ v3) && decide (v3 < zi 64) && true then rc v0 v1 v2 (IntKind.i64.wrap (v3 + 1)) v4 (v5.set v3.toNat (.sc (.int .u32 (JC BinOp.or IntKind.u32 (JC BinOp.or IntKind.u32 (JC BinOp.or IntKind.u32 (Xc IntKind.u32 (IntKind.u32.wrap (v2.getD (IntKind.i64.wrap (4 * v3)).toNat PV.top).int) 24) (Xc IntKind.u32 (IntKind.u32.wrap (v2.getD (IntKind.i64.wrap (IntKind.i64.wrap (4 * v3) + 1)).toNat PV.top).int) 16)) (Xc IntKind.u32 (IntKind.u32.wrap (v2.getD (IntKind.i64.wrap (IntKind.i64.wrap (4 * v3) + 2)).toNat PV.top).int) 8)) (IntKind.u32.wrap (v2.getD (IntKind.i64.wrap (IntKind.i64.wrap (4 * v3) + 3)).toNat PV.top).int))))) else none else none else none else none else none else k0 v4 v5
noncomputable def W1 (f : Nat) (k0 : List PV → List PV → Option Res) : Nat → Bool → Bool → List PV → Int → List PV → List PV → Option Res
  | 0, _, _, _, _, _, _ => none
  | n + 1, v0, v1, v2, v3, v4, v5 => YF f (W1 f k0 n) k0 v0 v1 v2 v3 v4 v5
theorem Jkh (f : Nat) (k : Kont) (n : Nat) (v0 : Bool) (v1 : Bool) (v2 : List PV) (v3 : Int) (v4 : List PV) (v5 : List PV) : Jo tau 0 Wt (fun s k => ev tau JeH 0 0 Gk (Ja0 ) s k) (n + 1) (Jc Wt Xt [.ro 5 v0 v1 v2, .ptr 1440 [], .ptr 1441 [], .sc (.int .i64 v3)] [(1440, .box false 118 (PV.ar 118 v4)), (1441, .box false 118 (PV.ar 118 v5))]) (Jv tau 0 WZ k) = YF f (fun v0 v1 v2 v3 v4 v5 => Jo tau 0 Wt (fun s k => ev tau JeH 0 0 Gk (Ja0 ) s k) n (Jc Wt Xt [.ro 5 v0 v1 v2, .ptr 1440 [], .ptr 1441 [], .sc (.int .i64 v3)] [(1440, .box false 118 (PV.ar 118 v4)), (1441, .box false 118 (PV.ar 118 v5))]) (Jv tau 0 WZ k)) (fun x0 x1 => k (Ex.exit 0) (Jc WZ Xt [.ptr 1440 [], .ptr 1441 []] [(1440, .box false 118 (PV.ar 118 x0)), (1441, .box false 118 (PV.ar 118 x1))])) v0 v1 v2 v3 v4 v5 := by kernel_rfl
theorem JeI (f : Nat) (k : Kont) : ∀ (n : Nat) (v0 : Bool) (v1 : Bool) (v2 : List PV) (v3 : Int) (v4 : List PV) (v5 : List PV), Jo tau 0 Wt (fun s k => ev tau JeH 0 0 Gk (Ja0 ) s k) n (Jc Wt Xt [.ro 5 v0 v1 v2, .ptr 1440 [], .ptr 1441 [], .sc (.int .i64 v3)] [(1440, .box false 118 (PV.ar 118 v4)), (1441, .box false 118 (PV.ar 118 v5))]) (Jv tau 0 WZ k) = W1 f (fun x0 x1 => k (Ex.exit 0) (Jc WZ Xt [.ptr 1440 [], .ptr 1441 []] [(1440, .box false 118 (PV.ar 118 x0)), (1441, .box false 118 (PV.ar 118 x1))])) n v0 v1 v2 v3 v4 v5 | 0, _, _, _, _, _, _ => rfl | n + 1, v0, v1, v2, v3, v4, v5 => (Jkh f k n v0 v1 v2 v3 v4 v5).trans (congrArg (fun r => YF f r (fun x0 x1 => k (Ex.exit 0) (Jc WZ Xt [.ptr 1440 [], .ptr 1441 []] [(1440, .box false 118 (PV.ar 118 x0)), (1441, .box false 118 (PV.ar 118 x1))])) v0 v1 v2 v3 v4 v5) (by funext v0 v1 v2 v3 v4 v5; exact JeI f k n v0 v1 v2 v3 v4 v5))
noncomputable def Gm (f : Nat) : List PV → List (Nat × Ent) → Kont → Option Res
  | [.ro 5 v0 v1 v2, .ptr 1440 [], .ptr 1441 [],
  PV.sc
    (Value.int IntKind.i64
      v3)], [(1440, .box false 118 (PV.ar 118 v4)),
  (1441,
    Ent.box false 118
      (PV.ar 118
        v5))], k => W1 f (fun x0 x1 => k (Ex.exit
  0) (Jc WZ Xt [.ptr 1440 [], .ptr 1441 []] [(1440, .box false 118 (PV.ar 118 x0)), (1441, .box false 118 (PV.ar 118 x1))])) f v0 v1 v2 v3 v4 v5
  | _, _, _ => none
theorem JmE (f : Nat) : Jg Gk Ja0 = [] := by kernel_rfl
theorem Jq3 (f : Nat) : (Item.l Gk Wt Xt (Gm f)).Ok tau Try.prog 0 := JJ Jq Jdc Jr (x := Ja0) (nm2 := WZ) (Jp _ _ (by rw [JmE f]; intro q hq; cases hq)) fun vs hp k res hr => by
  unfold Gm at hr
  split at hr
  · exact ⟨f, 0, (JeI f _ f _ _ _ _ _ _ ).trans hr⟩
  · cases hr
noncomputable def YG (f : Nat) (rc : Int → List PV → List PV → Option Res) (k0 : List PV → List PV → Option Res) (v0 : Int) (v1 : List PV) (v2 : List PV) : Option Res := bif decide (v0 < 64) then bif decide (0 ≤ IntKind.i64.wrap (v0 - 15)) && decide (IntKind.i64.wrap (v0 - 15) < zi 64) && true then bif PV.isInt IntKind.u32 (Jk (PV.ar 118 v2) [(IntKind.i64.wrap (v0 - 15)).toNat]) && true then bif decide (0 ≤ IntKind.i64.wrap (v0 - 2)) && decide (IntKind.i64.wrap (v0 - 2) < zi 64) && true then bif PV.isInt IntKind.u32 (Jk (PV.ar 118 v2) [(IntKind.i64.wrap (v0 - 2)).toNat]) && true then bif decide (0 ≤ IntKind.i64.wrap (v0 - 16)) && decide (IntKind.i64.wrap (v0 - 16) < zi 64) && true then bif PV.isInt IntKind.u32 (Jk (PV.ar 118 v2) [(IntKind.i64.wrap (v0 - 16)).toNat]) && true then bif decide (0 ≤ IntKind.i64.wrap (v0 - 7)) && decide (IntKind.i64.wrap (v0 - 7) < zi 64) && true then bif PV.isInt IntKind.u32 (Jk (PV.ar 118 v2) [(IntKind.i64.wrap (v0 - 7)).toNat]) && true then bif decide (0 ≤ v0) && decide (v0 < zi 64) && true then rc (IntKind.i64.wrap (v0 + 1)) v1 (v2.set v0.toNat (.sc (.int .u32 (IntKind.u32.wrap (IntKind.u32.wrap (IntKind.u32.wrap ((Jk (PV.ar 118 v2) [(IntKind.i64.wrap (v0 - 16)).toNat]).int + JC BinOp.xor IntKind.u32 (JC BinOp.xor IntKind.u32 (rr (Jk (PV.ar 118 v2) [(IntKind.i64.wrap (v0 - 15)).toNat]).int 7) (rr (Jk (PV.ar 118 v2) [(IntKind.i64.wrap (v0 - 15)).toNat]).int 18)) (Jw IntKind.u32 (Jk (PV.ar 118 v2) [(IntKind.i64.wrap (v0 - 15)).toNat]).int 3)) + (Jk (PV.ar 118 v2) [(IntKind.i64.wrap (v0 - 7)).toNat]).int) + JC BinOp.xor IntKind.u32 (JC BinOp.xor IntKind.u32 (rr (Jk (PV.ar 118 v2) [(IntKind.i64.wrap (v0 - 2)).toNat]).int 17) (rr (Jk (PV.ar 118 v2) [(IntKind.i64.wrap (v0 - 2)).toNat]).int 19)) (Jw IntKind.u32 (Jk (PV.ar 118 v2) [(IntKind.i64.wrap (v0 - 2)).toNat]).int 10)))))) else none else none else none else none else none else none else none else none else none else k0 v1 v2
noncomputable def W2 (f : Nat) (k0 : List PV → List PV → Option Res) : Nat → Int → List PV → List PV → Option Res
  | 0, _, _, _ => none
  | n + 1, v0, v1, v2 => YG f (W2 f k0 n) k0 v0 v1 v2
theorem Jki (f : Nat) (k : Kont) (n : Nat) (v0 : Int) (v1 : List PV) (v2 : List PV) : Jo tau 0 Wu (fun s k => ev tau JeH 0 0 Gl (Ja1 ) s k) (n + 1) (Jc Wu Xt [.ptr 1440 [], .ptr 1441 [], .sc (.int .i64 v0)] [(1440, .box false 118 (PV.ar 118 v1)), (1441, .box false 118 (PV.ar 118 v2))]) (Jv tau 0 W0 k) = YG f (fun v0 v1 v2 => Jo tau 0 Wu (fun s k => ev tau JeH 0 0 Gl (Ja1 ) s k) n (Jc Wu Xt [.ptr 1440 [], .ptr 1441 [], .sc (.int .i64 v0)] [(1440, .box false 118 (PV.ar 118 v1)), (1441, .box false 118 (PV.ar 118 v2))]) (Jv tau 0 W0 k)) (fun x0 x1 => k (Ex.exit 2) (Jc W0 Xt [.ptr 1440 [], .ptr 1441 []] [(1440, .box false 118 (PV.ar 118 x0)), (1441, .box false 118 (PV.ar 118 x1))])) v0 v1 v2 := by kernel_rfl
theorem JeJ (f : Nat) (k : Kont) : ∀ (n : Nat) (v0 : Int) (v1 : List PV) (v2 : List PV), Jo tau 0 Wu (fun s k => ev tau JeH 0 0 Gl (Ja1 ) s k) n (Jc Wu Xt [.ptr 1440 [], .ptr 1441 [], .sc (.int .i64 v0)] [(1440, .box false 118 (PV.ar 118 v1)), (1441, .box false 118 (PV.ar 118 v2))]) (Jv tau 0 W0 k) = W2 f (fun x0 x1 => k (Ex.exit 2) (Jc W0 Xt [.ptr 1440 [], .ptr 1441 []] [(1440, .box false 118 (PV.ar 118 x0)), (1441, .box false 118 (PV.ar 118 x1))])) n v0 v1 v2 | 0, _, _, _ => rfl | n + 1, v0, v1, v2 => (Jki f k n v0 v1 v2).trans (congrArg (fun r => YG f r (fun x0 x1 => k (Ex.exit 2) (Jc W0 Xt [.ptr 1440 [], .ptr 1441 []] [(1440, .box false 118 (PV.ar 118 x0)), (1441, .box false 118 (PV.ar 118 x1))])) v0 v1 v2) (by funext v0 v1 v2; exact JeJ f k n v0 v1 v2))
noncomputable def Gn (f : Nat) : List PV → List (Nat × Ent) → Kont → Option Res
  | [.ptr 1440 [], .ptr 1441 [],
  PV.sc
    (Value.int IntKind.i64
      v0)], [(1440, .box false 118 (PV.ar 118 v1)),
  (1441,
    Ent.box false 118
      (PV.ar 118
        v2))], k => W2 f (fun x0 x1 => k (Ex.exit
  2) (Jc W0 Xt [.ptr 1440 [], .ptr 1441 []] [(1440, .box false 118 (PV.ar 118 x0)), (1441, .box false 118 (PV.ar 118 x1))])) f v0 v1 v2
  | _, _, _ => none
theorem JmF (f : Nat) : Jg Gl Ja1 = [] := by kernel_rfl
theorem Jq4 (f : Nat) : (Item.l Gl Wu Xt (Gn f)).Ok tau Try.prog 0 := JJ Jq Jdc Jr (x := Ja1) (nm2 := W0) (Jp _ _ (by rw [JmF f]; intro q hq; cases hq)) fun vs hp k res hr => by
  unfold Gn at hr
  split at hr
  · exact ⟨f, 0, (JeJ f _ f _ _ _ ).trans hr⟩
  · cases hr
noncomputable def Jum (f : Nat) (b_z : Bool) (b_f : Bool) (b : List PV) (k : Res → Option Res) : Option Res := W1 f (fun x0_0 x1_0 => W2 f (fun x0_1 x1_1 => k (Res.mk (.ar 118 x1_1) [] [])) f (16) x0_0 x1_0) f b_z b_f b (0) ([.sc (.int .u32 0), .sc (.int .u32 0), .sc (.int .u32 0), .sc (.int .u32 0), .sc (.int .u32 0), .sc (.int .u32 0), .sc (.int .u32 0), .sc (.int .u32 0), .sc (.int .u32 0), .sc (.int .u32 0), .sc (.int .u32 0), .sc (.int .u32 0), .sc (.int .u32 0), .sc (.int .u32 0), .sc (.int .u32 0), .sc (.int .u32 0), .sc (.int .u32 0), .sc (.int .u32 0), .sc (.int .u32 0), .sc (.int .u32 0), .sc (.int .u32 0), .sc (.int .u32 0), .sc (.int .u32 0), .sc (.int .u32 0), .sc (.int .u32 0), .sc (.int .u32 0), .sc (.int .u32 0), .sc (.int .u32 0), .sc (.int .u32 0), .sc (.int .u32 0), .sc (.int .u32 0), .sc (.int .u32 0), .sc (.int .u32 0), .sc (.int .u32 0), .sc (.int .u32 0), .sc (.int .u32 0), .sc (.int .u32 0), .sc (.int .u32 0), .sc (.int .u32 0), .sc (.int .u32 0), .sc (.int .u32 0), .sc (.int .u32 0), .sc (.int .u32 0), .sc (.int .u32 0), .sc (.int .u32 0), .sc (.int .u32 0), .sc (.int .u32 0), .sc (.int .u32 0), .sc (.int .u32 0), .sc (.int .u32 0), .sc (.int .u32 0), .sc (.int .u32 0), .sc (.int .u32 0), .sc (.int .u32 0), .sc (.int .u32 0), .sc (.int .u32 0), .sc (.int .u32 0), .sc (.int .u32 0), .sc (.int .u32 0), .sc (.int .u32 0), .sc (.int .u32 0), .sc (.int .u32 0), .sc (.int .u32 0), .sc (.int .u32 0)]) ([.sc (.int .u32 0), .sc (.int .u32 0), .sc (.int .u32 0), .sc (.int .u32 0), .sc (.int .u32 0), .sc (.int .u32 0), .sc (.int .u32 0), .sc (.int .u32 0), .sc (.int .u32 0), .sc (.int .u32 0), .sc (.int .u32 0), .sc (.int .u32 0), .sc (.int .u32 0), .sc (.int .u32 0), .sc (.int .u32 0), .sc (.int .u32 0), .sc (.int .u32 0), .sc (.int .u32 0), .sc (.int .u32 0), .sc (.int .u32 0), .sc (.int .u32 0), .sc (.int .u32 0), .sc (.int .u32 0), .sc (.int .u32 0), .sc (.int .u32 0), .sc (.int .u32 0), .sc (.int .u32 0), .sc (.int .u32 0), .sc (.int .u32 0), .sc (.int .u32 0), .sc (.int .u32 0), .sc (.int .u32 0), .sc (.int .u32 0), .sc (.int .u32 0), .sc (.int .u32 0), .sc (.int .u32 0), .sc (.int .u32 0), .sc (.int .u32 0), .sc (.int .u32 0), .sc (.int .u32 0), .sc (.int .u32 0), .sc (.int .u32 0), .sc (.int .u32 0), .sc (.int .u32 0), .sc (.int .u32 0), .sc (.int .u32 0), .sc (.int .u32 0), .sc (.int .u32 0), .sc (.int .u32 0), .sc (.int .u32 0), .sc (.int .u32 0), .sc (.int .u32 0), .sc (.int .u32 0), .sc (.int .u32 0), .sc (.int .u32 0), .sc (.int .u32 0), .sc (.int .u32 0), .sc (.int .u32 0), .sc (.int .u32 0), .sc (.int .u32 0), .sc (.int .u32 0), .sc (.int .u32 0), .sc (.int .u32 0), .sc (.int .u32 0)])
theorem JyV (f : Nat) (b_z : Bool) (b_f : Bool) (b : List PV) (k : Res → Option Res) : JM tau JeH Try.f122 (Try.f122.body.get!) (Jkg (Gm f) (Gn f)) [] 0 [.ro 5 b_z b_f b] [] k = Jum f b_z b_f b k := by kernel_rfl
theorem Jun (f : Nat) : Jg (Try.f122.body.get!) (Jkg (Gm f) (Gn f)) = [.l Gk Wt Xt (Gm f), .l Gl Wu Xt (Gn f)] := by kernel_rfl
theorem Juo (f : Nat) : ∀ q ∈ Jg (Try.f122.body.get!) (Jkg (Gm f) (Gn f)), q.Ok tau Try.prog 0 := by
  rw [Jun f]; simp only [List.forall_mem_cons, List.not_mem_nil, false_implies, implies_true, and_true]; exact ⟨Jq3 f, Jq4 f⟩
theorem Jo1 : Try.prog.funcs[122]? = some Try.f122 := by kernel_rfl
theorem Jo2 : Try.f122.body = some (Try.f122.body.get!) := by kernel_rfl
theorem Jup : Enters Try.prog 122 := enters_of Jo1 (by kernel_rfl) Jo2
-- FN sha.spread
abbrev ww (x : Int) : Int := IntKind.u32.wrap x
def Juq (a b c d : Int) : Int := JC .or .u32 (JC .or .u32 (JC .or .u32 (Xc .u32 (ww a) 24) (Xc .u32 (ww b) 16)) (Xc .u32 (ww c) 8)) (ww d)
def sg0 (x : Int) : Int := JC .xor .u32 (JC .xor .u32 (rr x 7) (rr x 18)) (Jw .u32 x 3)
def sg1 (x : Int) : Int := JC .xor .u32 (JC .xor .u32 (rr x 17) (rr x 19)) (Jw .u32 x 10)
def JmG (w16 w15 w7 w2 : Int) : Int := ww (ww (ww (w16 + sg0 w15) + w7) + sg1 w2)
def JbE (bs : List Int) (j : Nat) : Int := Juq (bs.getD (4 * j) 0) (bs.getD (4 * j + 1) 0) (bs.getD (4 * j + 2) 0) (bs.getD (4 * j + 3) 0)
def Qh (bs : List Int) : Nat → List Int
  | 0 => (List.range 16).map (JbE bs)
  | i + 1 => Qh bs i ++ [JmG ((Qh bs i).getD i 0) ((Qh bs i).getD (i + 1) 0) ((Qh bs i).getD (i + 9) 0) ((Qh bs i).getD (i + 14) 0)]
def J8 (bs : List Int) : List Int := Qh bs 48
theorem JR (bs : List Int) : ∀ i, (Qh bs i).length = 16 + i
  | 0 => by simp [Qh]
  | i + 1 => by simp [Qh, JR bs i]; omega
def Ja2 (bs : List Int) (i : Nat) : List Int := (List.range i).map (JbE bs) ++ List.replicate (64 - i) 0
def GV (bs : List Int) (i : Nat) : List Int := Qh bs i ++ List.replicate (48 - i) 0
theorem Jdd (bs : List Int) (i : Nat) (h : i ≤ 48) : (GV bs i).length = 64 := by simp [GV, JR]; omega
theorem JeK (L : List Int) (m : Nat) (x : Int) : (L ++ List.replicate (m + 1) 0).set L.length x = (L ++ [x]) ++ List.replicate m 0 := by
  simp [List.replicate_succ]
theorem Jjc (bs : List Int) (i : Nat) (h : i < 64) : (Ja2 bs i).set i (JbE bs i) = Ja2 bs (i + 1) := by
  have := JeK ((List.range i).map (JbE bs)) (63 - i) (JbE bs i)
  simp only [List.length_map, List.length_range] at this
  simp only [Ja2, show 64 - i = 63 - i + 1 from by omega, this, show 64 - (i + 1) = 63 - i from by omega, List.range_succ, List.map_append, List.map_cons, List.map_nil]
theorem Zs (bs : List Int) (i j : Nat) (h : j < 16 + i) : (GV bs i).getD j 0 = (Qh bs i).getD j 0 := by
  simp only [GV, List.getD_eq_getElem?_getD]
  rw [List.getElem?_append_left (by rw [JR]; exact h)]
theorem Jjd (bs : List Int) (i : Nat) (h : i < 48) (x : Int) : (GV bs i).set (i + 16) x = (Qh bs i ++ [x]) ++ List.replicate (48 - (i + 1)) 0 := by
  have := JeK (Qh bs i) (47 - i) x
  rw [JR] at this
  rw [GV, show 48 - i = 47 - i + 1 from by omega, show i + 16 = 16 + i from by omega, this, show 48 - (i + 1) = 47 - i from by omega]
theorem Jkj (bs : List Int) (hb : bs.length = 64) (f : Nat) (k0 : List PV → List PV → Option Res) (nl fl : Bool) (w : List PV) : ∀ (d i n : Nat), i + d = 16 → d < n →
    W1 f k0 n nl fl (pu .u8 bs) (i : Int) w (pu .u32 (Ja2 bs i)) = k0 w (pu .u32 (Ja2 bs 16))
  | 0, i, n + 1, h, hn => by
      obtain rfl : i = 16 := by omega
      simp only [W1, YF]
      exact JA (by decide)
  | d + 1, i, n + 1, h, hn => by
      have h4 : IntKind.i64.wrap (4 * (i : Int)) = ((4 * i : Nat) : Int) := by rw [wrap_i64 (by omega) (by omega)]; omega
      have h41 : IntKind.i64.wrap (((4 * i : Nat) : Int) + 1) = ((4 * i + 1 : Nat) : Int) := by rw [wrap_i64 (by omega) (by omega)]; omega
      have h42 : IntKind.i64.wrap (((4 * i : Nat) : Int) + 2) = ((4 * i + 2 : Nat) : Int) := by rw [wrap_i64 (by omega) (by omega)]; omega
      have h43 : IntKind.i64.wrap (((4 * i : Nat) : Int) + 3) = ((4 * i + 3 : Nat) : Int) := by rw [wrap_i64 (by omega) (by omega)]; omega
      have h5 : IntKind.i64.wrap ((i : Int) + 1) = ((i + 1 : Nat) : Int) := by rw [wrap_i64 (by omega) (by omega)]; omega
      simp only [W1, YF, h4, h41, h42, h43, h5, Int.toNat_natCast, zi]
      rw [JU (by omega), JU (by omega), JU (by omega), JU (by omega), Qj (by omega), Qj (by omega), Qj (by omega), Qj (by omega), JI, Wk]
      refine (Ja (by simp; omega)).trans ?_
      refine (Ja (by simp; omega)).trans ?_
      refine (Ja (by simp; omega)).trans ?_
      refine (Ja (by simp; omega)).trans ?_
      refine (Ja (by simp; omega)).trans ?_
      refine (Ja (by simp; omega)).trans ?_
      have := Jkj bs hb f k0 nl fl w d (i + 1) n (by omega) (by omega)
      rw [← Jjc bs i (by omega)] at this
      exact this
theorem Jkk (bs : List Int) (f : Nat) (k0 : List PV → List PV → Option Res) (w : List PV) : ∀ (d i n : Nat), i + d = 48 → d < n →
    W2 f k0 n ((i + 16 : Nat) : Int) w (pu .u32 (GV bs i)) = k0 w (pu .u32 (Qh bs 48))
  | 0, i, n + 1, h, hn => by
      obtain rfl : i = 48 := by omega
      simp only [W2, YG]
      exact (JA (by decide)).trans (by simp [GV])
  | d + 1, i, n + 1, h, hn => by
      have h15 : IntKind.i64.wrap (((i + 16 : Nat) : Int) - 15) = ((i + 1 : Nat) : Int) := by rw [wrap_i64 (by omega) (by omega)]; omega
      have h2 : IntKind.i64.wrap (((i + 16 : Nat) : Int) - 2) = ((i + 14 : Nat) : Int) := by rw [wrap_i64 (by omega) (by omega)]; omega
      have h16 : IntKind.i64.wrap (((i + 16 : Nat) : Int) - 16) = ((i : Nat) : Int) := by rw [wrap_i64 (by omega) (by omega)]; omega
      have h7 : IntKind.i64.wrap (((i + 16 : Nat) : Int) - 7) = ((i + 9 : Nat) : Int) := by rw [wrap_i64 (by omega) (by omega)]; omega
      have h1 : IntKind.i64.wrap (((i + 16 : Nat) : Int) + 1) = ((i + 1 + 16 : Nat) : Int) := by rw [wrap_i64 (by omega) (by omega)]; omega
      have hl := Jdd bs i (by omega)
      simp only [W2, YG, h15, h2, h16, h7, h1, Int.toNat_natCast, zi, Wr]
      rw [JU (by omega), JU (by omega), JU (by omega), JU (by omega), Qj (by omega), Qj (by omega), Qj (by omega), Qj (by omega), Wk]
      refine (Ja (by simp; omega)).trans ?_
      refine (Ja (by simp; omega)).trans ?_
      refine (Ja (by simp)).trans ?_
      refine (Ja (by simp; omega)).trans ?_
      refine (Ja (by simp)).trans ?_
      refine (Ja (by simp; omega)).trans ?_
      refine (Ja (by simp)).trans ?_
      refine (Ja (by simp; omega)).trans ?_
      refine (Ja (by simp)).trans ?_
      refine (Ja (by simp; omega)).trans ?_
      have := Jkk bs f k0 w d (i + 1) n (by omega) (by omega)
      rw [Zs bs i i (by omega), Zs bs i (i + 1) (by omega), Zs bs i (i + 9) (by omega), Zs bs i (i + 14) (by omega), Jjd bs i (by omega)]
      exact this
theorem JmH (bs : List Int) (hb : bs.length = 64) (nl fl : Bool) (k : Res → Option Res) : Jum 100 nl fl (pu .u8 bs) k = k ⟨.ar 118 (pu .u32 (J8 bs)), [], []⟩ := by
  have h0 : ∀ k0 w, W1 100 k0 100 nl fl (pu .u8 bs) 0 w (pu .u32 (List.replicate 64 0)) = k0 w (pu .u32 (Ja2 bs 16)) := fun k0 w => Jkj bs hb 100 k0 nl fl w 16 0 100 (by omega) (by omega)
  have h1 : ∀ k0 w, W2 100 k0 100 16 w (pu .u32 (Ja2 bs 16)) = k0 w (pu .u32 (Qh bs 48)) := fun k0 w => Jkk bs 100 k0 w 48 0 100 (by omega) (by omega)
  exact (h0 _ _).trans (h1 _ _)
def Jde : List PV → List Ent → (Res → Option Res) → Option Res
  | [.ro 5 nl fl b], [], k => bif Je .u8 b && decide (b.length = 64) then k ⟨.ar 118 (pu .u32 (J8 (Jf b))), [], []⟩ else none
  | _, _, _ => none
def Jo3 : Sig := { own := [], run := Jde }
theorem Jq5 : Jh tau Try.prog 122 Jo3 := JY Jq Jdc Jr Jo1 Jo2 _ [] 0 [] Jde (Juo 100) fun xs es k res hr => by
  unfold Jde at hr
  split at hr
  · obtain ⟨hc, hr⟩ := JH hr
    simp only [Bool.and_eq_true, decide_eq_true_eq] at hc
    refine ⟨rfl, 0, (JyV 100 _ _ _ _).trans ?_⟩
    rw [Qb hc.1, JmH _ (by simpa using hc.2)]
    exact hr
  · cases hr
def Qn (g : Nat → Int) (t : List Int) (i : Nat) : List Int := (List.range i).map g ++ t.drop i
theorem Qt (g : Nat → Int) (t : List Int) : Qn g t 0 = t := by simp [Qn]
theorem QK (g : Nat → Int) (t : List Int) : Qn g t t.length = (List.range t.length).map g := by simp [Qn]
theorem XO (g : Nat → Int) (t : List Int) (i : Nat) (h : i ≤ t.length) : (Qn g t i).length = t.length := by simp [Qn]; omega
theorem Qk (g : Nat → Int) (t : List Int) (i : Nat) (h : i < t.length) : (Qn g t i).set i (g i) = Qn g t (i + 1) := by
  rw [Qn, List.set_append_right _ _ (by simp), List.drop_eq_getElem_cons h, List.length_map, List.length_range, Nat.sub_self, List.set_cons_zero]
  simp [Qn, List.range_succ]
theorem Gp (g : Nat → Int) (t : List Int) (i : Nat) (h : i < t.length) : (Qn g t i).getD i 0 = t.getD i 0 := by
  simp only [Qn, List.getD_eq_getElem?_getD]
  rw [List.getElem?_append_right (by simp)]
  simp
def kks : List Int := [1116352408, 1899447441, 3049323471, 3921009573, 961987163, 1508970993, 2453635748, 2870763221, 3624381080, 310598401, 607225278, 1426881987, 1925078388, 2162078206, 2614888103, 3248222580, 3835390401, 4022224774, 264347078, 604807628, 770255983, 1249150122, 1555081692, 1996064986, 2554220882, 2821834349, 2952996808, 3210313671, 3336571891, 3584528711, 113926993, 338241895, 666307205, 773529912, 1294757372, 1396182291, 1695183700, 1986661051, 2177026350, 2456956037, 2730485921, 2820302411, 3259730800, 3345764771, 3516065817, 3600352804, 4094571909, 275423344, 430227734, 506948616, 659060556, 883997877, 958139571, 1322822218, 1537002063, 1747873779, 1955562222, 2024104815, 2227730452, 2361852424, 2428436474, 2756734187, 3204031479, 3329325298]
def iv : List Int := [1779033703, 3144134277, 1013904242, 2773480762, 1359893119, 2600822924, 528734635, 1541459225]
def xW (k w h e f g : Int) : Int := ww (ww (ww (ww (h + JC .xor .u32 (JC .xor .u32 (rr e 6) (rr e 11)) (rr e 25)) + JC .xor .u32 (JC .and .u32 e f) (JC .and .u32 (JC .xor .u32 (Int.ofNat (2 ^ IntKind.u32.bits - Nat.succ 0)) e) g)) + k) + w)
def yW (a b c : Int) : Int := ww (JC .xor .u32 (JC .xor .u32 (rr a 2) (rr a 13)) (rr a 22) + JC .xor .u32 (JC .xor .u32 (JC .and .u32 a b) (JC .and .u32 a c)) (JC .and .u32 b c))
def rnd (k w : Int) (t : List Int) : List Int :=
  [ww (xW k w (t.getD 7 0) (t.getD 4 0) (t.getD 5 0) (t.getD 6 0) + yW (t.getD 0 0) (t.getD 1 0) (t.getD 2 0)), t.getD 0 0, t.getD 1 0, t.getD 2 0,
    ww (t.getD 3 0 + xW k w (t.getD 7 0) (t.getD 4 0) (t.getD 5 0) (t.getD 6 0)), t.getD 4 0, t.getD 5 0, t.getD 6 0]
def YH (W s : List Int) : Nat → List Int
  | 0 => s
  | i + 1 => rnd (kks.getD i 0) (W.getD i 0) (YH W s i)
theorem W3 (W s : List Int) (h : s.length = 8) : ∀ i, (YH W s i).length = 8
  | 0 => h
  | i + 1 => rfl
def JeL (s bs : List Int) : List Int := (List.range 8).map fun i => ww ((YH (J8 bs) s 64).getD i 0 + s.getD i 0)
theorem JeM (s bs : List Int) : (JeL s bs).length = 8 := by simp [JeL]
def QX (s b : List Int) : Nat → List Int
  | 0 => s
  | n + 1 => JeL (QX s b n) ((b.drop (64 * n)).take 64)
theorem Wv (s b : List Int) (h : s.length = 8) : ∀ n, (QX s b n).length = 8
  | 0 => h
  | n + 1 => JeM _ _
def zs (m : Nat) : Nat := (120 - m % 64) % 64
def JmI (n : Nat) : List Int := (List.range 8).map fun (i : Nat) => IntKind.u8.wrap (Jw .u64 (IntKind.u64.wrap (IntKind.u64.wrap (n : Int) * 8)) (56 - 8 * (i : Int)))
def Qo (bs : List Int) : List Int := (bs ++ [128] ++ List.replicate (zs (bs.length + 1)) 0) ++ JmI bs.length
theorem GW (bs : List Int) : (Qo bs).length = 64 * ((Qo bs).length / 64) := by
  have : (Qo bs).length = bs.length + 1 + zs (bs.length + 1) + 8 := by simp [Qo, JmI]; omega
  rw [this]; unfold zs; omega
def Yk (s : List Int) (i : Nat) : Int := IntKind.u8.wrap (Jw .u32 (s.getD (i / 4) 0) (24 - 8 * ((i % 4 : Nat) : Int)))
def Jje (s : List Int) : List Int := (List.range 32).map (Yk s)
def JhI (bs : List Int) : List Int := Jje (QX iv (Qo bs) ((Qo bs).length / 64))
def Jy (bs : List Int) : List Int := bif Nat.ble bs.length bs.length then JhI bs else []
theorem Jam (bs : List Int) : Jy bs = JhI bs := by
  have : Nat.ble bs.length bs.length = true := by rw [Nat.ble_eq]; exact Nat.le_refl _
  rw [Jy, this]; rfl
theorem J2 (bs : List Int) : (Jy bs).length = 32 := by simp [Jam, JhI, Jje]
theorem Ja3 (n : Nat) : (zi n).tmod 64 = ((n % 64 : Nat) : Int) := by
  show (n : Int).tmod 64 = _
  rw [Int.tmod_eq_emod_of_nonneg (by omega)]; omega
-- FN ref8.Hash
def Gq : Nat → RS → RS
  | 0, s => s
  | n + 1, s => Gq n (Qc 1 s)
def Gr : Nat → RS → List Int
  | 0, _ => []
  | n + 1, s => IntKind.u8.wrap (Wh 1 s) :: Gr n (Qc 1 s)
def Jjf : Nat → RT → RT
  | 0, t => t
  | n + 1, t => Jjf n (XM 1 t)
noncomputable def hashS : RS → RS := hid (Gq 32)
noncomputable def hashV : RS → List Int := hid (Gr 32)
noncomputable def hashT : RT → RT := hid (Jjf 32)
noncomputable def hashVT : RT → List Int := hid fun t => Gr 32 t.view
theorem hashS_eq (s : RS) : hashS s = Gq 32 s := by rw [hashS, hid_eq]
theorem hashV_eq (s : RS) : hashV s = Gr 32 s := by rw [hashV, hid_eq]
theorem hashT_eq (t : RT) : hashT t = Jjf 32 t := by rw [hashT, hid_eq]
theorem hashVT_eq (t : RT) : hashVT t = Gr 32 t.view := by rw [hashVT, hid_eq]
theorem GX : ∀ (n : Nat) (s : RS), (Gr n s).length = n
  | 0, _ => rfl
  | n + 1, s => by simp [Gr, GX n]
@[simp] theorem hashV_length (s : RS) : (hashV s).length = 32 := by rw [hashV_eq]; exact GX 32 s
theorem Jca : ∀ (n : Nat) (t : RT), (Jjf n t).view = Gq n t.view
  | 0, _ => rfl
  | n + 1, t => by simp only [Jjf, Gq, Jca n, Gi]
@[simp] theorem hashT_view (t : RT) : (hashT t).view = hashS t.view := by rw [hashT_eq, hashS_eq, Jca]
@[simp] theorem hashVT_val (t : RT) : hashVT t = hashV t.view := by rw [hashVT_eq, hashV_eq]
theorem JhJ : ∀ (n : Nat) {t : RT}, okT t = true → okT (Jjf n t) = true
  | 0, _, h => h
  | n + 1, t, h => JhJ n (Vu h 1)
@[simp] theorem Jur {t : RT} (h : okT t = true) : okT (hashT t) = true := by rw [hashT_eq]; exact JhJ 32 h
theorem JhK : ∀ (n : Nat) {s : RS}, byB s.b = true → byB (Gq n s).b = true
  | 0, _, h => h
  | n + 1, s, h => JhK n (Xs h 1)
-- FN wire.read
noncomputable def fS : Nat → RS → RS
  | 0, s => s
  | 1, s => Jb 1 s
  | n + 2, s => Jb 8 (fS (n + 1) s)
def Jcb (c : Int) (s : RS) : RS := ⟨s.b, bif s.e == 0 then c else s.e⟩
noncomputable def txR : Nat → RS → RS
  | 0, s => s
  | n + 1, s => txR n (J3 s)
noncomputable def Jq6 (s : RS) : Int := Jz 1 (fS 13 s)
noncomputable def Jus (s : RS) : Nat := bif decide (Jq6 s > 4) then 0 else (Jq6 s).toNat
noncomputable def Jut (s : RS) : RS := bif decide (Jq6 s > 4) then Jcb 4 (Jb 1 (fS 13 s)) else Jb 1 (fS 13 s)
noncomputable def Jq7 : RS → List Int := hid fun s => hashV (txR (Jus s) (Jut s))
theorem JmJ (s : RS) : Jq7 s = hashV (txR (Jus s) (Jut s)) := by rw [Jq7, hid_eq]
@[simp] theorem Jo4 (s : RS) : (Jq7 s).length = 32 := by rw [JmJ]; exact hashV_length _
theorem Qp {s : RS} (h : byB s.b = true) (n : Nat) : byB (Jb n s).b = true := by rw [WO]; exact Xs h n
theorem JhL {s : RS} (h : byB s.b = true) : byB (J3 s).b = true := by rw [Jak]; exact Xs (Xs h 2) _
theorem YI : ∀ l : List PV, (Jn l).length = l.length
  | [] => rfl
  | p :: ps => by simp [Jn, YI ps]
theorem Jjg {s : RS} (h : byB s.b = true) : (JP s).size ≤ 65535 := by
  rw [Jal]
  show (Jn _).length ≤ _
  rw [YI]
  have h1 := ZT (Wh 2 s).toNat (Qc 2 s)
  have h2 := XL h (n := 2) (Nat.le_refl 2)
  omega
theorem GY (t : ByteArray) : (Jm t).length = t.size := by simp only [Jm, List.length_map, Array.length_toList]; rfl
noncomputable def F78 : Fns := F0
theorem Jq8 : Jx tau Try.prog F78 := JE
def JmK : An := (.seq .leaf (.seq (.seq .leaf (.cond (.seq .leaf .leaf) .leaf)) (.seq .leaf .leaf)))
noncomputable def g78 (f : Nat) (r_b_z : Bool) (r_b_f : Bool) (r_b : List PV) (r_e : Int) (k : Res → Option Res) : Option Res := bif r_e == 0 then bif decide (zi r_b.length > 0) then k (Res.mk (.sc (.int .i64 9)) [.box false 186 (PV.st 186 [.ro 5 r_b_z r_b_f r_b, .sc (.int .i64 r_e)])] []) else k (Res.mk (.sc (.int .i64 r_e)) [.box false 186 (PV.st 186 [.ro 5 r_b_z r_b_f r_b, .sc (.int .i64 r_e)])] []) else k (Res.mk (.sc (.int .i64 r_e)) [.box false 186 (PV.st 186 [.ro 5 r_b_z r_b_f r_b, .sc (.int .i64 r_e)])] [])
theorem e78 (f : Nat) (r_b_z : Bool) (r_b_f : Bool) (r_b : List PV) (r_e : Int) (k : Res → Option Res) : JM tau F78 Try.f78 (Try.f78.body.get!) JmK [.ro] 0 [.ptr 0 []] [.box false 186 (.st 186 [.ro 5 r_b_z r_b_f r_b, .sc (.int .i64 r_e)])] k = g78 f r_b_z r_b_f r_b r_e k := by kernel_rfl
theorem JyW (f : Nat) : Jg (Try.f78.body.get!) JmK = [] := by kernel_rfl
theorem JyX (f : Nat) : ∀ q ∈ Jg (Try.f78.body.get!) JmK, q.Ok tau Try.prog 1 := by
  rw [JyW f]; intro q hq; cases hq
theorem Juu : Try.prog.funcs[78]? = some Try.f78 := by kernel_rfl
theorem Juv : Try.f78.body = some (Try.f78.body.get!) := by kernel_rfl
theorem Juw : Enters Try.prog 78 := enters_of Juu (by kernel_rfl) Juv
noncomputable def Jkl : List PV → List Ent → (Res → Option Res) → Option Res
  | [.ptr 0 []], [.box false 186 (.st 186 [.ro 5 r_b_z r_b_f r_b, .sc (.int .i64 r_e)])], k => g78 0 r_b_z r_b_f r_b r_e k
  | _, _, _ => none
noncomputable def s78 : Sig := { own := [], run := Jkl }
theorem Jux : Jh tau Try.prog 78 s78 := JY Jq Jq8 Jr Juu Juv JmK [.ro] 1 [] Jkl (JyX 0) fun xs es k res hr => by
  unfold Jkl at hr
  split at hr
  · exact ⟨rfl, 0, (e78 0 _ _ _ _  _).trans hr⟩
  · cases hr





-- FN wire.check | wire.key
def QL (x m : Int) : Bool := decide (x ≥ 0) && decide (x ≤ m)
def JyY (fr to wh wn cd cu ve co ad au su er : Int) : Bool := QL fr 2 && (QL to 2 && (!(fr == to) && (QL wh 2 && (QL wn 99 && (QL cd 2 && (QL cu 7 && (QL ad 2 && (QL au 7 && (QL ve 1073741824 && (QL co 1073741824 && (QL su 1073741824 && QL er 255)))))))))))
def JyZ (kd fr to wh wn cd cu ve co ad au su er : Int) : Int := bif QL (IntKind.i64.wrap (kd - 1)) 4 then (bif JyY fr to wh wn cd cu ve co ad au su er then 0 else 1) else 3
structure C13 where
  (kd fr to wh wn cd cu ve co ad au su er : Int)
noncomputable def chk : C13 → Int := hid fun c => JyZ c.kd c.fr c.to c.wh c.wn c.cd c.cu c.ve c.co c.ad c.au c.su c.er
def WP (l : List PV) (d : Int) : PV := bif QL d 2 then l.getD d.toNat .top else .ro 5 true true []
structure K3 where
  (l : List PV) (d : Int)
noncomputable def QD : K3 → List PV := hid fun c => (WP c.l c.d).els
noncomputable def Jq9 : K3 → Bool := hid fun c => (WP c.l c.d).nl
noncomputable def Jra : K3 → Bool := hid fun c => (WP c.l c.d).fl
theorem Jan (c : K3) : QD c = (WP c.l c.d).els := by rw [QD, hid_eq]
theorem JmL (c : K3) : Jq9 c = (WP c.l c.d).nl := by rw [Jq9, hid_eq]
theorem JmM (c : K3) : Jra c = (WP c.l c.d).fl := by rw [Jra, hid_eq]
noncomputable def Juy : Fns := F0
theorem JmN : Jx tau Try.prog Juy := JE
def JhM : An := (.seq .leaf (.seq .leaf .leaf))
noncomputable def Juz (f : Nat) (k : Res → Option Res) : Option Res := k (Res.mk (.ar 118 [.sc (.int .u32 1116352408), .sc (.int .u32 1899447441), .sc (.int .u32 3049323471), .sc (.int .u32 3921009573), .sc (.int .u32 961987163), .sc (.int .u32 1508970993), .sc (.int .u32 2453635748), .sc (.int .u32 2870763221), .sc (.int .u32 3624381080), .sc (.int .u32 310598401), .sc (.int .u32 607225278), .sc (.int .u32 1426881987), .sc (.int .u32 1925078388), .sc (.int .u32 2162078206), .sc (.int .u32 2614888103), .sc (.int .u32 3248222580), .sc (.int .u32 3835390401), .sc (.int .u32 4022224774), .sc (.int .u32 264347078), .sc (.int .u32 604807628), .sc (.int .u32 770255983), .sc (.int .u32 1249150122), .sc (.int .u32 1555081692), .sc (.int .u32 1996064986), .sc (.int .u32 2554220882), .sc (.int .u32 2821834349), .sc (.int .u32 2952996808), .sc (.int .u32 3210313671), .sc (.int .u32 3336571891), .sc (.int .u32 3584528711), .sc (.int .u32 113926993), .sc (.int .u32 338241895), .sc (.int .u32 666307205), .sc (.int .u32 773529912), .sc (.int .u32 1294757372), .sc (.int .u32 1396182291), .sc (.int .u32 1695183700), .sc (.int .u32 1986661051), .sc (.int .u32 2177026350), .sc (.int .u32 2456956037), .sc (.int .u32 2730485921), .sc (.int .u32 2820302411), .sc (.int .u32 3259730800), .sc (.int .u32 3345764771), .sc (.int .u32 3516065817), .sc (.int .u32 3600352804), .sc (.int .u32 4094571909), .sc (.int .u32 275423344), .sc (.int .u32 430227734), .sc (.int .u32 506948616), .sc (.int .u32 659060556), .sc (.int .u32 883997877), .sc (.int .u32 958139571), .sc (.int .u32 1322822218), .sc (.int .u32 1537002063), .sc (.int .u32 1747873779), .sc (.int .u32 1955562222), .sc (.int .u32 2024104815), .sc (.int .u32 2227730452), .sc (.int .u32 2361852424), .sc (.int .u32 2428436474), .sc (.int .u32 2756734187), .sc (.int .u32 3204031479), .sc (.int .u32 3329325298)]) [] [])
theorem Jy0 (f : Nat) (k : Res → Option Res) : JM tau Juy Try.f123 (Try.f123.body.get!) JhM [.ro] 0 [] [] k = Juz f k := by kernel_rfl
theorem JuA (f : Nat) : Jg (Try.f123.body.get!) JhM = [] := by kernel_rfl
theorem JuB (f : Nat) : ∀ q ∈ Jg (Try.f123.body.get!) JhM, q.Ok tau Try.prog 0 := by
  rw [JuA f]; intro q hq; cases hq
theorem Jo5 : Try.prog.funcs[123]? = some Try.f123 := by kernel_rfl
theorem Jo6 : Try.f123.body = some (Try.f123.body.get!) := by kernel_rfl
theorem JuC : Enters Try.prog 123 := enters_of Jo5 (by kernel_rfl) Jo6
noncomputable def Jgk : List PV → List Ent → (Res → Option Res) → Option Res
  | [], [], k => Juz 0  k
  | _, _, _ => none
noncomputable def JuD : Sig := { own := [], run := Jgk }
theorem JuE : Jh tau Try.prog 123 JuD := JY Jq JmN Jr Jo5 Jo6 JhM [.ro] 0 [] Jgk (JuB 0) fun xs es k res hr => by
  unfold Jgk at hr
  split at hr
  · exact ⟨rfl, 0, (Jy0 0  _).trans hr⟩
  · cases hr
def N71 : Nat := 113
noncomputable def F71 : Fns := JG 123 JuD (JG 122 Jo3 (JG 124 Jke F0))
theorem Jgl : Jx tau Try.prog F71 := ((JE.add Jkf Jo0).add Jq5 Jup).add JuE JuC
noncomputable def Jcc : Code := Qs (Try.f71.body.get!) [1, 1, 1, 0, 1, 0, 0]
def XP : Nm := [(2, .any), (4, .any), (5, .any), (6, .any), (7, .any), (18, .any)]
def YJ : Nm := [(2, .any), (4, .any), (7, .any)]
def JeN : An := (.seq .leaf (.seq (.cond .leaf .leaf) (.seq (.block none (.seq .leaf (.seq .leaf (.seq .leaf (.seq .leaf .leaf))))) .leaf)))
noncomputable def Jcd : Code := Qs (Try.f71.body.get!) [1, 1, 1, 1, 0, 1, 0, 0]
def XQ : Nm := [(2, .any), (4, .any), (7, .any), (100, .any)]
def YK : Nm := [(4, .any), (7, .any)]
def JeO : An := (.seq .leaf (.seq (.cond .leaf .leaf) (.seq (.block none (.seq .leaf .leaf)) .leaf)))
def Jrb (r0 : QZ) (r1 : QZ) : An := (.seq .leaf (.seq .leaf (.seq .leaf (.seq (.seq .leaf (.block none (.sum XP N71 r0))) (.seq (.seq .leaf (.block none (.sum XQ N71 r1))) (.seq .leaf .leaf))))))
def Vv (f : Nat) (rc : Int → List PV → List PV → List PV → List PV → List PV → Option Res) (k0 : List PV → List PV → List PV → Option Res) (v0 : Int) (v1 : List PV) (v2 : List PV) (v3 : List PV) (v4 : List PV) (v5 : List PV) : Option Res := bif decide (v0 < 64) then bif PV.isInt IntKind.u32 (Jk (PV.ar 113 v5) [4]) && true then bif PV.isInt IntKind.u32 (Jk (PV.ar 113 v5) [0]) && true then bif PV.isInt IntKind.u32 (Jk (PV.ar 113 v5) [7]) && true then bif PV.isInt IntKind.u32 (Jk (PV.ar 113 v5) [5]) && true then bif PV.isInt IntKind.u32 (Jk (PV.ar 113 v5) [6]) && true then bif decide (0 ≤ v0) && decide (v0 < zi 64) && true then bif PV.isInt IntKind.u32 (Jk (PV.ar 118 v4) [v0.toNat]) && true then bif decide (0 ≤ v0) && decide (v0 < zi 64) && true then bif PV.isInt IntKind.u32 (Jk (PV.ar 118 v3) [v0.toNat]) && true then bif PV.isInt IntKind.u32 (Jk (PV.ar 113 v5) [1]) && true then bif PV.isInt IntKind.u32 (Jk (PV.ar 113 v5) [2]) && true then bif PV.isInt IntKind.u32 (Jk (PV.ar 113 v5) [1]) && true then bif PV.isInt IntKind.u32 (Jk (PV.ar 113 v5) [2]) && true then bif PV.isInt IntKind.u32 (Jk (PV.ar 113 v5) [0]) && true then bif PV.isInt IntKind.u32 (Jk (PV.ar 113 v5) [1]) && true then bif PV.isInt IntKind.u32 (Jk (PV.ar 113 v5) [2]) && true then bif PV.isInt IntKind.u32 (Jk (PV.ar 113 v5) [3]) && true then bif PV.isInt IntKind.u32 (Jk (PV.ar 113 v5) [4]) && true then bif PV.isInt IntKind.u32 (Jk (PV.ar 113 v5) [5]) && true then bif PV.isInt IntKind.u32 (Jk (PV.ar 113 v5) [6]) && true then rc (IntKind.i64.wrap (v0 + 1)) v1 v2 v3 v4 ([.sc (.int .u32 (IntKind.u32.wrap (IntKind.u32.wrap (IntKind.u32.wrap (IntKind.u32.wrap (IntKind.u32.wrap ((Jk (PV.ar 113 v5) [7]).int + JC BinOp.xor IntKind.u32 (JC BinOp.xor IntKind.u32 (rr (Jk (PV.ar 113 v5) [4]).int 6) (rr (Jk (PV.ar 113 v5) [4]).int 11)) (rr (Jk (PV.ar 113 v5) [4]).int 25)) + JC BinOp.xor IntKind.u32 (JC BinOp.and IntKind.u32 (Jk (PV.ar 113 v5) [4]).int (Jk (PV.ar 113 v5) [5]).int) (JC BinOp.and IntKind.u32 (JC BinOp.xor IntKind.u32 (Int.ofNat (2 ^ IntKind.u32.bits - Nat.succ 0)) (Jk (PV.ar 113 v5) [4]).int) (Jk (PV.ar 113 v5) [6]).int)) + (Jk (PV.ar 118 v4) [v0.toNat]).int) + (Jk (PV.ar 118 v3) [v0.toNat]).int) + IntKind.u32.wrap (JC BinOp.xor IntKind.u32 (JC BinOp.xor IntKind.u32 (rr (Jk (PV.ar 113 v5) [0]).int 2) (rr (Jk (PV.ar 113 v5) [0]).int 13)) (rr (Jk (PV.ar 113 v5) [0]).int 22) + JC BinOp.xor IntKind.u32 (JC BinOp.xor IntKind.u32 (JC BinOp.and IntKind.u32 (Jk (PV.ar 113 v5) [0]).int (Jk (PV.ar 113 v5) [1]).int) (JC BinOp.and IntKind.u32 (Jk (PV.ar 113 v5) [0]).int (Jk (PV.ar 113 v5) [2]).int)) (JC BinOp.and IntKind.u32 (Jk (PV.ar 113 v5) [1]).int (Jk (PV.ar 113 v5) [2]).int))))), .sc (.int .u32 (Jk (PV.ar 113 v5) [0]).int), .sc (.int .u32 (Jk (PV.ar 113 v5) [1]).int), .sc (.int .u32 (Jk (PV.ar 113 v5) [2]).int), .sc (.int .u32 (IntKind.u32.wrap ((Jk (PV.ar 113 v5) [3]).int + IntKind.u32.wrap (IntKind.u32.wrap (IntKind.u32.wrap (IntKind.u32.wrap ((Jk (PV.ar 113 v5) [7]).int + JC BinOp.xor IntKind.u32 (JC BinOp.xor IntKind.u32 (rr (Jk (PV.ar 113 v5) [4]).int 6) (rr (Jk (PV.ar 113 v5) [4]).int 11)) (rr (Jk (PV.ar 113 v5) [4]).int 25)) + JC BinOp.xor IntKind.u32 (JC BinOp.and IntKind.u32 (Jk (PV.ar 113 v5) [4]).int (Jk (PV.ar 113 v5) [5]).int) (JC BinOp.and IntKind.u32 (JC BinOp.xor IntKind.u32 (Int.ofNat (2 ^ IntKind.u32.bits - Nat.succ 0)) (Jk (PV.ar 113 v5) [4]).int) (Jk (PV.ar 113 v5) [6]).int)) + (Jk (PV.ar 118 v4) [v0.toNat]).int) + (Jk (PV.ar 118 v3) [v0.toNat]).int)))), .sc (.int .u32 (Jk (PV.ar 113 v5) [4]).int), .sc (.int .u32 (Jk (PV.ar 113 v5) [5]).int), .sc (.int .u32 (Jk (PV.ar 113 v5) [6]).int)]) else none else none else none else none else none else none else none else none else none else none else none else none else none else none else none else none else none else none else none else none else k0 v1 v2 v5
def YL (f : Nat) (k0 : List PV → List PV → List PV → Option Res) : Nat → Int → List PV → List PV → List PV → List PV → List PV → Option Res
  | 0, _, _, _, _, _, _ => none
  | n + 1, v0, v1, v2, v3, v4, v5 => Vv f (YL f k0 n) k0 v0 v1 v2 v3 v4 v5
theorem JmO (f : Nat) (k : Kont) (n : Nat) (v0 : Int) (v1 : List PV) (v2 : List PV) (v3 : List PV) (v4 : List PV) (v5 : List PV) : Jo tau 0 XP (fun s k => ev tau F71 0 0 Jcc (JeN ) s k) (n + 1) (Jc XP N71 [.ptr 1824 [], .ptr 1825 [], .ptr 1826 [], .ptr 1827 [], .ptr 1828 [], .sc (.int .i64 v0)] [(1824, .box false 113 (PV.ar 113 v1)), (1825, .box false 113 (PV.ar 113 v2)), (1826, .box false 118 (PV.ar 118 v3)), (1827, .box false 118 (PV.ar 118 v4)), (1828, .box false 113 (PV.ar 113 v5))]) (Jv tau 0 YJ k) = Vv f (fun v0 v1 v2 v3 v4 v5 => Jo tau 0 XP (fun s k => ev tau F71 0 0 Jcc (JeN ) s k) n (Jc XP N71 [.ptr 1824 [], .ptr 1825 [], .ptr 1826 [], .ptr 1827 [], .ptr 1828 [], .sc (.int .i64 v0)] [(1824, .box false 113 (PV.ar 113 v1)), (1825, .box false 113 (PV.ar 113 v2)), (1826, .box false 118 (PV.ar 118 v3)), (1827, .box false 118 (PV.ar 118 v4)), (1828, .box false 113 (PV.ar 113 v5))]) (Jv tau 0 YJ k)) (fun x0 x1 x2 => k (Ex.exit 0) (Jc YJ N71 [.ptr 1824 [], .ptr 1825 [], .ptr 1826 []] [(1824, .box false 113 (PV.ar 113 x0)), (1825, .box false 113 (PV.ar 113 x1)), (1826, .box false 113 (PV.ar 113 x2))])) v0 v1 v2 v3 v4 v5 := by kernel_rfl
theorem JhN (f : Nat) (k : Kont) : ∀ (n : Nat) (v0 : Int) (v1 : List PV) (v2 : List PV) (v3 : List PV) (v4 : List PV) (v5 : List PV), Jo tau 0 XP (fun s k => ev tau F71 0 0 Jcc (JeN ) s k) n (Jc XP N71 [.ptr 1824 [], .ptr 1825 [], .ptr 1826 [], .ptr 1827 [], .ptr 1828 [], .sc (.int .i64 v0)] [(1824, .box false 113 (PV.ar 113 v1)), (1825, .box false 113 (PV.ar 113 v2)), (1826, .box false 118 (PV.ar 118 v3)), (1827, .box false 118 (PV.ar 118 v4)), (1828, .box false 113 (PV.ar 113 v5))]) (Jv tau 0 YJ k) = YL f (fun x0 x1 x2 => k (Ex.exit 0) (Jc YJ N71 [.ptr 1824 [], .ptr 1825 [], .ptr 1826 []] [(1824, .box false 113 (PV.ar 113 x0)), (1825, .box false 113 (PV.ar 113 x1)), (1826, .box false 113 (PV.ar 113 x2))])) n v0 v1 v2 v3 v4 v5 | 0, _, _, _, _, _, _ => rfl | n + 1, v0, v1, v2, v3, v4, v5 => (JmO f k n v0 v1 v2 v3 v4 v5).trans (congrArg (fun r => Vv f r (fun x0 x1 x2 => k (Ex.exit 0) (Jc YJ N71 [.ptr 1824 [], .ptr 1825 [], .ptr 1826 []] [(1824, .box false 113 (PV.ar 113 x0)), (1825, .box false 113 (PV.ar 113 x1)), (1826, .box false 113 (PV.ar 113 x2))])) v0 v1 v2 v3 v4 v5) (by funext v0 v1 v2 v3 v4 v5; exact JhN f k n v0 v1 v2 v3 v4 v5))
def Jce (f : Nat) : List PV → List (Nat × Ent) → Kont → Option Res
  | [.ptr 1824 [], .ptr 1825 [], .ptr 1826 [], .ptr 1827 [], .ptr 1828 [],
  PV.sc
    (Value.int IntKind.i64
      v0)], [(1824, .box false 113 (PV.ar 113 v1)), (1825, .box false 113 (PV.ar 113 v2)), (1826, .box false 118 (PV.ar 118 v3)), (1827, .box false 118 (PV.ar 118 v4)),
  (1828,
    Ent.box false 113
      (PV.ar 113
        v5))], k => YL f (fun x0 x1 x2 => k (Ex.exit
  0) (Jc YJ N71 [.ptr 1824 [], .ptr 1825 [],
  PV.ptr 1826 []] [(1824, .box false 113 (PV.ar 113 x0)), (1825, .box false 113 (PV.ar 113 x1)), (1826, .box false 113 (PV.ar 113 x2))])) f v0 v1 v2 v3 v4 v5
  | _, _, _ => none
theorem Jrc (f : Nat) : Jg Jcc JeN = [] := by kernel_rfl
theorem JuF (f : Nat) : (Item.l Jcc XP N71 (Jce f)).Ok tau Try.prog 0 := JJ Jq Jgl Jr (x := JeN) (nm2 := YJ) (Jp _ _ (by rw [Jrc f]; intro q hq; cases hq)) fun vs hp k res hr => by
  unfold Jce at hr
  split at hr
  · exact ⟨f, 0, (JhN f _ f _ _ _ _ _ _ ).trans hr⟩
  · cases hr
def Vw (f : Nat) (rc : Int → List PV → List PV → List PV → Option Res) (k0 : List PV → List PV → Option Res) (v0 : Int) (v1 : List PV) (v2 : List PV) (v3 : List PV) : Option Res := bif decide (v0 < 8) then bif decide (0 ≤ v0) && decide (v0 < zi 8) && true then bif PV.isInt IntKind.u32 (Jk (PV.ar 113 v3) [v0.toNat]) && true then bif decide (0 ≤ v0) && decide (v0 < zi 8) && true then bif PV.isInt IntKind.u32 (Jk (PV.ar 113 v1) [v0.toNat]) && true then bif decide (0 ≤ v0) && decide (v0 < zi 8) && true then rc (IntKind.i64.wrap (v0 + 1)) v1 v2 (v3.set v0.toNat (.sc (.int .u32 (IntKind.u32.wrap ((Jk (PV.ar 113 v3) [v0.toNat]).int + (Jk (PV.ar 113 v1) [v0.toNat]).int))))) else none else none else none else none else none else k0 v2 v3
def YM (f : Nat) (k0 : List PV → List PV → Option Res) : Nat → Int → List PV → List PV → List PV → Option Res
  | 0, _, _, _, _ => none
  | n + 1, v0, v1, v2, v3 => Vw f (YM f k0 n) k0 v0 v1 v2 v3
theorem JmP (f : Nat) (k : Kont) (n : Nat) (v0 : Int) (v1 : List PV) (v2 : List PV) (v3 : List PV) : Jo tau 0 XQ (fun s k => ev tau F71 0 0 Jcd (JeO ) s k) (n + 1) (Jc XQ N71 [.ptr 1824 [], .ptr 1825 [], .ptr 1826 [], .sc (.int .i64 v0)] [(1824, .box false 113 (PV.ar 113 v1)), (1825, .box false 113 (PV.ar 113 v2)), (1826, .box false 113 (PV.ar 113 v3))]) (Jv tau 0 YK k) = Vw f (fun v0 v1 v2 v3 => Jo tau 0 XQ (fun s k => ev tau F71 0 0 Jcd (JeO ) s k) n (Jc XQ N71 [.ptr 1824 [], .ptr 1825 [], .ptr 1826 [], .sc (.int .i64 v0)] [(1824, .box false 113 (PV.ar 113 v1)), (1825, .box false 113 (PV.ar 113 v2)), (1826, .box false 113 (PV.ar 113 v3))]) (Jv tau 0 YK k)) (fun x0 x1 => k (Ex.exit 2) (Jc YK N71 [.ptr 1824 [], .ptr 1825 []] [(1824, .box false 113 (PV.ar 113 x0)), (1825, .box false 113 (PV.ar 113 x1))])) v0 v1 v2 v3 := by kernel_rfl
theorem JhO (f : Nat) (k : Kont) : ∀ (n : Nat) (v0 : Int) (v1 : List PV) (v2 : List PV) (v3 : List PV), Jo tau 0 XQ (fun s k => ev tau F71 0 0 Jcd (JeO ) s k) n (Jc XQ N71 [.ptr 1824 [], .ptr 1825 [], .ptr 1826 [], .sc (.int .i64 v0)] [(1824, .box false 113 (PV.ar 113 v1)), (1825, .box false 113 (PV.ar 113 v2)), (1826, .box false 113 (PV.ar 113 v3))]) (Jv tau 0 YK k) = YM f (fun x0 x1 => k (Ex.exit 2) (Jc YK N71 [.ptr 1824 [], .ptr 1825 []] [(1824, .box false 113 (PV.ar 113 x0)), (1825, .box false 113 (PV.ar 113 x1))])) n v0 v1 v2 v3 | 0, _, _, _, _ => rfl | n + 1, v0, v1, v2, v3 => (JmP f k n v0 v1 v2 v3).trans (congrArg (fun r => Vw f r (fun x0 x1 => k (Ex.exit 2) (Jc YK N71 [.ptr 1824 [], .ptr 1825 []] [(1824, .box false 113 (PV.ar 113 x0)), (1825, .box false 113 (PV.ar 113 x1))])) v0 v1 v2 v3) (by funext v0 v1 v2 v3; exact JhO f k n v0 v1 v2 v3))
def Jcf (f : Nat) : List PV → List (Nat × Ent) → Kont → Option Res
  | [.ptr 1824 [], .ptr 1825 [], .ptr 1826 [],
  PV.sc
    (Value.int IntKind.i64
      v0)], [(1824, .box false 113 (PV.ar 113 v1)), (1825, .box false 113 (PV.ar 113 v2)),
  (1826,
    Ent.box false 113
      (PV.ar 113
        v3))], k => YM f (fun x0 x1 => k (Ex.exit
  2) (Jc YK N71 [.ptr 1824 [], .ptr 1825 []] [(1824, .box false 113 (PV.ar 113 x0)), (1825, .box false 113 (PV.ar 113 x1))])) f v0 v1 v2 v3
  | _, _, _ => none
theorem Jrd (f : Nat) : Jg Jcd JeO = [] := by kernel_rfl
theorem JuG (f : Nat) : (Item.l Jcd XQ N71 (Jcf f)).Ok tau Try.prog 0 := JJ Jq Jgl Jr (x := JeO) (nm2 := YK) (Jp _ _ (by rw [Jrd f]; intro q hq; cases hq)) fun vs hp k res hr => by
  unfold Jcf at hr
  split at hr
  · exact ⟨f, 0, (JhO f _ f _ _ _ _ ).trans hr⟩
  · cases hr
def g71 (f : Nat) (s : List PV) (nl : Bool) (fl : Bool) (b : List PV) (k : Res → Option Res) : Option Res := bif Je IntKind.u8 b && decide (b.length = 64) then YL f (fun x0_0 x1_0 x2_0 => YM f (fun x0_1 x1_1 => k (Res.mk (.ar 113 x1_1) [] [])) f (0) x0_0 x1_0 x2_0) f (0) s ([.sc (.int .u32 0), .sc (.int .u32 0), .sc (.int .u32 0), .sc (.int .u32 0), .sc (.int .u32 0), .sc (.int .u32 0), .sc (.int .u32 0), .sc (.int .u32 0)]) (pu IntKind.u32 (J8 (Jf b))) ([.sc (.int .u32 1116352408), .sc (.int .u32 1899447441), .sc (.int .u32 3049323471), .sc (.int .u32 3921009573), .sc (.int .u32 961987163), .sc (.int .u32 1508970993), .sc (.int .u32 2453635748), .sc (.int .u32 2870763221), .sc (.int .u32 3624381080), .sc (.int .u32 310598401), .sc (.int .u32 607225278), .sc (.int .u32 1426881987), .sc (.int .u32 1925078388), .sc (.int .u32 2162078206), .sc (.int .u32 2614888103), .sc (.int .u32 3248222580), .sc (.int .u32 3835390401), .sc (.int .u32 4022224774), .sc (.int .u32 264347078), .sc (.int .u32 604807628), .sc (.int .u32 770255983), .sc (.int .u32 1249150122), .sc (.int .u32 1555081692), .sc (.int .u32 1996064986), .sc (.int .u32 2554220882), .sc (.int .u32 2821834349), .sc (.int .u32 2952996808), .sc (.int .u32 3210313671), .sc (.int .u32 3336571891), .sc (.int .u32 3584528711), .sc (.int .u32 113926993), .sc (.int .u32 338241895), .sc (.int .u32 666307205), .sc (.int .u32 773529912), .sc (.int .u32 1294757372), .sc (.int .u32 1396182291), .sc (.int .u32 1695183700), .sc (.int .u32 1986661051), .sc (.int .u32 2177026350), .sc (.int .u32 2456956037), .sc (.int .u32 2730485921), .sc (.int .u32 2820302411), .sc (.int .u32 3259730800), .sc (.int .u32 3345764771), .sc (.int .u32 3516065817), .sc (.int .u32 3600352804), .sc (.int .u32 4094571909), .sc (.int .u32 275423344), .sc (.int .u32 430227734), .sc (.int .u32 506948616), .sc (.int .u32 659060556), .sc (.int .u32 883997877), .sc (.int .u32 958139571), .sc (.int .u32 1322822218), .sc (.int .u32 1537002063), .sc (.int .u32 1747873779), .sc (.int .u32 1955562222), .sc (.int .u32 2024104815), .sc (.int .u32 2227730452), .sc (.int .u32 2361852424), .sc (.int .u32 2428436474), .sc (.int .u32 2756734187), .sc (.int .u32 3204031479), .sc (.int .u32 3329325298)]) s else none
theorem e71 (f : Nat) (s : List PV) (nl : Bool) (fl : Bool) (b : List PV) (k : Res → Option Res) : JM tau F71 Try.f71 (Try.f71.body.get!) (Jrb (Jce f) (Jcf f)) [] 0 [.ar 113 s, .ro 5 nl fl b] [] k = g71 f s nl fl b k := by kernel_rfl
theorem Jy1 (f : Nat) : Jg (Try.f71.body.get!) (Jrb (Jce f) (Jcf f)) = [.l Jcc XP N71 (Jce f), .l Jcd XQ N71 (Jcf f)] := by kernel_rfl
theorem Jy2 (f : Nat) : ∀ q ∈ Jg (Try.f71.body.get!) (Jrb (Jce f) (Jcf f)), q.Ok tau Try.prog 0 := by
  rw [Jy1 f]; simp only [List.forall_mem_cons, List.not_mem_nil, false_implies, implies_true, and_true]; exact ⟨JuF f, JuG f⟩
theorem JuH : Try.prog.funcs[71]? = some Try.f71 := by kernel_rfl
theorem JuI : Try.f71.body = some (Try.f71.body.get!) := by kernel_rfl
theorem Jy3 : Enters Try.prog 71 := enters_of JuH (by kernel_rfl) JuI
-- FN (sha.state).add
theorem YN {R : List Int} (h : R.length = 8) (j : Nat) (hj : j < 8) : (pu .u32 R).getD j .top = .sc (.int .u32 (R.getD j 0)) := Yz (by omega)
theorem Jo7 (W s : List Int) (hW : W.length = 64) (hs : s.length = 8) (f : Nat) (k0 : List PV → List PV → List PV → Option Res) (a b : List PV) : ∀ (d i n : Nat), i + d = 64 → d < n →
    YL f k0 n (i : Int) a b (pu .u32 W) (pu .u32 kks) (pu .u32 (YH W s i)) = k0 a b (pu .u32 (YH W s 64))
  | 0, i, n + 1, h, hn => by
      obtain rfl : i = 64 := by omega
      simp only [YL, Vv]
      exact JA (by decide)
  | d + 1, i, n + 1, h, hn => by
      have hl := W3 W s hs i
      have h1 : IntKind.i64.wrap ((i : Int) + 1) = ((i + 1 : Nat) : Int) := by rw [wrap_i64 (by omega) (by omega)]; omega
      have hk : (pu .u32 kks).getD i .top = .sc (.int .u32 (kks.getD i 0)) := Yz (by show i < 64; omega)
      have hw : (pu .u32 W).getD i .top = .sc (.int .u32 (W.getD i 0)) := Yz (by omega)
      have c1 : decide ((i : Int) < 64) = true := by simp; omega
      have c2 : decide (0 ≤ (i : Int)) = true := by simp
      have c3 : decide ((i : Int) < zi 64) = true := by simp; omega
      simp only [YL, Vv, Wr, Int.toNat_natCast, h1, hk, hw, c1, c2, c3, YN hl 0 (by omega), YN hl 1 (by omega), YN hl 2 (by omega), YN hl 3 (by omega), YN hl 4 (by omega), YN hl 5 (by omega), YN hl 6 (by omega), YN hl 7 (by omega), PV.isInt, PV.int, decide_true, Bool.and_true, cond_true]
      exact Jo7 W s hW hs f k0 a b d (i + 1) n (by omega) (by omega)
theorem Jo8 (t s : List Int) (ht : t.length = 8) (hs : s.length = 8) (f : Nat) (k0 : List PV → List PV → Option Res) (a : List PV) : ∀ (d i n : Nat), i + d = 8 → d < n →
    YM f k0 n (i : Int) (pu .u32 s) a (pu .u32 (Qn (fun j => ww (t.getD j 0 + s.getD j 0)) t i)) = k0 a (pu .u32 (Qn (fun j => ww (t.getD j 0 + s.getD j 0)) t 8))
  | 0, i, n + 1, h, hn => by
      obtain rfl : i = 8 := by omega
      simp only [YM, Vw]
      exact JA (by decide)
  | d + 1, i, n + 1, h, hn => by
      have hl : (Qn (fun j => ww (t.getD j 0 + s.getD j 0)) t i).length = 8 := by rw [XO _ _ _ (by omega), ht]
      have h1 : IntKind.i64.wrap ((i : Int) + 1) = ((i + 1 : Nat) : Int) := by rw [wrap_i64 (by omega) (by omega)]; omega
      have c1 : decide ((i : Int) < 8) = true := by simp; omega
      have c2 : decide (0 ≤ (i : Int)) = true := by simp
      have c3 : decide ((i : Int) < zi 8) = true := by simp; omega
      have g1 : ((i : Int)).toNat = i := by omega
      simp only [YM, Vw, Wr, g1, h1, c1, c2, c3, YN hl i (by omega), YN hs i (by omega), Gp _ t i (by omega), PV.isInt, PV.int, decide_true, Bool.and_true, cond_true, Wk]
      have := Jo8 t s ht hs f k0 a d (i + 1) n (by omega) (by omega)
      rw [← Qk _ t i (by omega)] at this
      exact this
theorem Jre (s bs : List Int) (hs : s.length = 8) (hb : bs.length = 64) (nl fl : Bool) (k : Res → Option Res) : g71 100 (pu .u32 s) nl fl (pu .u8 bs) k = k ⟨.ar 113 (pu .u32 (JeL s bs)), [], []⟩ := by
  have hW : (J8 bs).length = 64 := JR bs 48
  have hc : (Je .u8 (pu .u8 bs) && decide ((pu .u8 bs).length = 64)) = true := by simp [hb]
  refine (Ja hc).trans ?_
  rw [Qv]
  have h0 : ∀ k0 a b, YL 100 k0 100 0 a b (pu .u32 (J8 bs)) (pu .u32 kks) (pu .u32 s) = k0 a b (pu .u32 (YH (J8 bs) s 64)) := fun k0 a b => Jo7 (J8 bs) s hW hs 100 k0 a b 64 0 100 (by omega) (by omega)
  have ht := W3 (J8 bs) s hs 64
  have h1 : ∀ k0 a, YM 100 k0 100 0 (pu .u32 s) a (pu .u32 (YH (J8 bs) s 64)) = k0 a (pu .u32 (JeL s bs)) := by
    intro k0 a
    have := Jo8 (YH (J8 bs) s 64) s ht hs 100 k0 a 8 0 100 (by omega) (by omega)
    rw [Qt] at this
    refine this.trans ?_
    have h2 := QK (fun j => ww ((YH (J8 bs) s 64).getD j 0 + s.getD j 0)) (YH (J8 bs) s 64)
    rw [ht] at h2; rw [h2]; rfl
  exact (h0 _ _ _).trans (h1 _ _)
def Jgm : List PV → List Ent → (Res → Option Res) → Option Res
  | [.ar 113 s, .ro 5 nl fl b], [], k => bif (Je .u32 s && decide (s.length = 8)) && (Je .u8 b && decide (b.length = 64)) then k ⟨.ar 113 (pu .u32 (JeL (Jf s) (Jf b))), [], []⟩ else none
  | _, _, _ => none
def JuJ : Sig := { own := [], run := Jgm }
theorem JuK : Jh tau Try.prog 71 JuJ := JY Jq Jgl Jr JuH JuI _ [] 0 [] Jgm (Jy2 100) fun xs es k res hr => by
  unfold Jgm at hr
  split at hr
  · obtain ⟨hc, hr⟩ := JH hr
    simp only [Bool.and_eq_true, decide_eq_true_eq] at hc
    refine ⟨rfl, 0, (e71 100 _ _ _ _ _).trans ?_⟩
    rw [Qb hc.2.1, Qb hc.1.1, Jre _ _ (by simpa using hc.1.2) (by simpa using hc.2.2)]
    exact hr
  · cases hr
noncomputable def JuL : Fns := F0
theorem JmQ : Jx tau Try.prog JuL := JE
def JhP : An := (.seq .leaf (.seq (.seq .leaf (.cond .leaf .leaf)) (.seq (.seq .leaf (.seq .leaf (.cond .leaf .leaf))) (.seq .leaf .leaf))))
noncomputable def JuM (f : Nat) (n : Int) (k : Res → Option Res) : Option Res := bif decide (n < 0) then none else bif decide (IntKind.i64.wrap (n - IntKind.i64.wrap (zi 0 - zi 0)) > 0) then bif decide (0 ≤ IntKind.i64.wrap (n - IntKind.i64.wrap (zi 0 - zi 0))) && Jj (IntKind.i64.wrap (n - IntKind.i64.wrap (zi 0 - zi 0))).toNat 1 && true then k (Res.mk (.ow 5 16 [] 0 0 none) [] [.vec false 5 (IntKind.i64.wrap (n - IntKind.i64.wrap (zi 0 - zi 0)) == 0) (List.replicate (IntKind.i64.wrap (n - IntKind.i64.wrap (zi 0 - zi 0))).toNat (.sc (.int .u8 0)))]) else none else k (Res.mk (.ro 5 true true []) [] [])
theorem Jy4 (f : Nat) (n : Int) (k : Res → Option Res) : JM tau JuL Try.f121 (Try.f121.body.get!) JhP [] 0 [.ro 5 true true [], .sc (.int .i64 n)] [] k = JuM f n k := by kernel_rfl
theorem JuN (f : Nat) : Jg (Try.f121.body.get!) JhP = [] := by kernel_rfl
theorem JuO (f : Nat) : ∀ q ∈ Jg (Try.f121.body.get!) JhP, q.Ok tau Try.prog 0 := by
  rw [JuN f]; intro q hq; cases hq
theorem Jo9 : Try.prog.funcs[121]? = some Try.f121 := by kernel_rfl
theorem Jpa : Try.f121.body = some (Try.f121.body.get!) := by kernel_rfl
theorem JuP : Enters Try.prog 121 := enters_of Jo9 (by kernel_rfl) Jpa
noncomputable def Jgn : List PV → List Ent → (Res → Option Res) → Option Res
  | [.ro 5 true true [], .sc (.int .i64 n)], [], k => JuM 0 n k
  | _, _, _ => none
noncomputable def JuQ : Sig := { own := [], run := Jgn }
theorem JuR : Jh tau Try.prog 121 JuQ := JY Jq JmQ Jr Jo9 Jpa JhP [] 0 [] Jgn (JuO 0) fun xs es k res hr => by
  unfold Jgn at hr
  split at hr
  · exact ⟨rfl, 0, (Jy4 0 _  _).trans hr⟩
  · cases hr
def N70 : Nat := 36
noncomputable def F70 : Fns := JG 121 JuQ (F0)
theorem Jgo : Jx tau Try.prog F70 := (JE).add JuR JuP
noncomputable def Jcg : Code := Qs (Try.f70.body.get!) [1, 1, 0, 1, 0, 0]
def XR : Nm := [(0, .any), (3, .any), (9, .any), (10, .any), (11, .any)]
def YO : Nm := [(0, .any), (3, .any)]
def JeP : An := (.seq .leaf (.seq (.cond .leaf .leaf) (.seq (.block none (.seq .leaf (.seq .leaf (.seq .leaf (.cond .leaf .leaf))))) .leaf)))
noncomputable def Jch : Code := Qs (Try.f70.body.get!) [1, 1, 1, 1, 0, 1, 0, 0]
def XS : Nm := [(6, .own), (25, .any), (26, .any), (27, .any)]
def YP : Nm := [(6, .any)]
def JeQ : An := (.seq .leaf (.seq (.cond .leaf .leaf) (.seq (.block none (.seq .leaf .leaf)) .leaf)))
def JmR (r0 : QZ) (r1 : QZ) : An := (.seq .leaf (.seq .leaf (.seq (.seq .leaf (.block none (.sum XR N70 r0))) (.seq .leaf (.seq (.seq .leaf (.block none (.sum XS N70 r1))) (.seq .leaf .leaf))))))
noncomputable def Vx (f : Nat) (rc : Bool → Bool → List PV → Int → Bool → Bool → List PV → Int → Int → Option Res) (k0 : Bool → Bool → List PV → Int → Option Res) (v0 : Bool) (v1 : Bool) (v2 : List PV) (v3 : Int) (v4 : Bool) (v5 : Bool) (v6 : List PV) (v7 : Int) (v8 : Int) : Option Res := bif decide (v8 < v7) then bif decide (0 ≤ v8) && decide (v8 < zi v6.length) && PV.isRo 5 (v6.getD v8.toNat PV.top) && true then bif decide (IntKind.i64.wrap (v3 + zi (v6.getD v8.toNat PV.top).els.length) < 0) then none else rc v0 v1 v2 (IntKind.i64.wrap (v3 + zi (v6.getD v8.toNat PV.top).els.length)) v4 v5 v6 v7 (IntKind.i64.wrap (v8 + 1)) else none else k0 v0 v1 v2 v3
noncomputable def ZV (f : Nat) (k0 : Bool → Bool → List PV → Int → Option Res) : Nat → Bool → Bool → List PV → Int → Bool → Bool → List PV → Int → Int → Option Res
  | 0, _, _, _, _, _, _, _, _, _ => none
  | n + 1, v0, v1, v2, v3, v4, v5, v6, v7, v8 => Vx f (ZV f k0 n) k0 v0 v1 v2 v3 v4 v5 v6 v7 v8
theorem JmS (f : Nat) (k : Kont) (n : Nat) (v0 : Bool) (v1 : Bool) (v2 : List PV) (v3 : Int) (v4 : Bool) (v5 : Bool) (v6 : List PV) (v7 : Int) (v8 : Int) : Jo tau 0 XR (fun s k => ev tau F70 0 0 Jcg (JeP ) s k) (n + 1) (Jc XR N70 [.ro 29 v0 v1 v2, .sc (.int .i64 v3), .ro 29 v4 v5 v6, .sc (.int .i64 v7), .sc (.int .i64 v8)] []) (Jv tau 0 YO k) = Vx f (fun v0 v1 v2 v3 v4 v5 v6 v7 v8 => Jo tau 0 XR (fun s k => ev tau F70 0 0 Jcg (JeP ) s k) n (Jc XR N70 [.ro 29 v0 v1 v2, .sc (.int .i64 v3), .ro 29 v4 v5 v6, .sc (.int .i64 v7), .sc (.int .i64 v8)] []) (Jv tau 0 YO k)) (fun x0 x1 x2 x3 => k (Ex.exit 0) (Jc YO N70 [.ro 29 x0 x1 x2, .sc (.int .i64 x3)] [])) v0 v1 v2 v3 v4 v5 v6 v7 v8 := by kernel_rfl
theorem JhQ (f : Nat) (k : Kont) : ∀ (n : Nat) (v0 : Bool) (v1 : Bool) (v2 : List PV) (v3 : Int) (v4 : Bool) (v5 : Bool) (v6 : List PV) (v7 : Int) (v8 : Int), Jo tau 0 XR (fun s k => ev tau F70 0 0 Jcg (JeP ) s k) n (Jc XR N70 [.ro 29 v0 v1 v2, .sc (.int .i64 v3), .ro 29 v4 v5 v6, .sc (.int .i64 v7), .sc (.int .i64 v8)] []) (Jv tau 0 YO k) = ZV f (fun x0 x1 x2 x3 => k (Ex.exit 0) (Jc YO N70 [.ro 29 x0 x1 x2, .sc (.int .i64 x3)] [])) n v0 v1 v2 v3 v4 v5 v6 v7 v8 | 0, _, _, _, _, _, _, _, _, _ => rfl | n + 1, v0, v1, v2, v3, v4, v5, v6, v7, v8 => (JmS f k n v0 v1 v2 v3 v4 v5 v6 v7 v8).trans (congrArg (fun r => Vx f r (fun x0 x1 x2 x3 => k (Ex.exit 0) (Jc YO N70 [.ro 29 x0 x1 x2, .sc (.int .i64 x3)] [])) v0 v1 v2 v3 v4 v5 v6 v7 v8) (by funext v0 v1 v2 v3 v4 v5 v6 v7 v8; exact JhQ f k n v0 v1 v2 v3 v4 v5 v6 v7 v8))
noncomputable def Ja4 (f : Nat) : List PV → List (Nat × Ent) → Kont → Option Res
  | [.ro 29 v0 v1 v2, .sc (.int .i64 v3), .ro 29 v4 v5 v6, .sc (.int .i64 v7),
  .sc (.int .i64 v8)], [], k => ZV f (fun x0 x1 x2 x3 => k (Ex.exit 0) (Jc YO N70 [.ro 29 x0 x1 x2, .sc (.int .i64 x3)] [])) f v0 v1 v2 v3 v4 v5 v6 v7 v8
  | _, _, _ => none
theorem Jrf (f : Nat) : Jg Jcg JeP = [] := by kernel_rfl
theorem JuS (f : Nat) : (Item.l Jcg XR N70 (Ja4 f)).Ok tau Try.prog 0 := JJ Jq Jgo Jr (x := JeP) (nm2 := YO) (Jp _ _ (by rw [Jrf f]; intro q hq; cases hq)) fun vs hp k res hr => by
  unfold Ja4 at hr
  split at hr
  · exact ⟨f, 0, (JhQ f _ f _ _ _ _ _ _ _ _ _ ).trans hr⟩
  · cases hr
noncomputable def Vy (f : Nat) (rc : Nat → Bool → Bool → List PV → Int → Int → Bool → List PV → Option Res) (k0 : Nat → Bool → List PV → Option Res) (v0 : Nat) (v1 : Bool) (v2 : Bool) (v3 : List PV) (v4 : Int) (v5 : Int) (v6 : Bool) (v7 : List PV) : Option Res := bif decide (v5 < v4) then bif decide (0 ≤ v5) && decide (v5 < zi v3.length) && PV.isRo 5 (v3.getD v5.toNat PV.top) && true then bif Jj (v0 + (v3.getD v5.toNat PV.top).els.length) 1 && true then rc (v0 + (v3.getD v5.toNat PV.top).els.length) v1 v2 v3 v4 (IntKind.i64.wrap (v5 + 1)) (v6 && (v3.getD v5.toNat PV.top).els.isEmpty) (List.take v0 v7 ++ (v3.getD v5.toNat PV.top).els) else none else none else k0 v0 v6 v7
noncomputable def Xe (f : Nat) (k0 : Nat → Bool → List PV → Option Res) : Nat → Nat → Bool → Bool → List PV → Int → Int → Bool → List PV → Option Res
  | 0, _, _, _, _, _, _, _, _ => none
  | n + 1, v0, v1, v2, v3, v4, v5, v6, v7 => Vy f (Xe f k0 n) k0 v0 v1 v2 v3 v4 v5 v6 v7
theorem JmT (f : Nat) (k : Kont) (n : Nat) (v0 : Nat) (v1 : Bool) (v2 : Bool) (v3 : List PV) (v4 : Int) (v5 : Int) (v6 : Bool) (v7 : List PV) : Jo tau 0 XS (fun s k => ev tau F70 0 0 Jch (JeQ ) s k) (n + 1) (Jc XS N70 [.ow 5 592 [] 0 v0 none, .ro 29 v1 v2 v3, .sc (.int .i64 v4), .sc (.int .i64 v5)] [(592, .vec false 5 v6 v7)]) (Jv tau 0 YP k) = Vy f (fun v0 v1 v2 v3 v4 v5 v6 v7 => Jo tau 0 XS (fun s k => ev tau F70 0 0 Jch (JeQ ) s k) n (Jc XS N70 [.ow 5 592 [] 0 v0 none, .ro 29 v1 v2 v3, .sc (.int .i64 v4), .sc (.int .i64 v5)] [(592, .vec false 5 v6 v7)]) (Jv tau 0 YP k)) (fun x0 x1 x2 => k (Ex.exit 2) (Jc YP N70 [.ow 5 592 [] 0 x0 none] [(592, .vec false 5 x1 x2)])) v0 v1 v2 v3 v4 v5 v6 v7 := by kernel_rfl
theorem JhR (f : Nat) (k : Kont) : ∀ (n : Nat) (v0 : Nat) (v1 : Bool) (v2 : Bool) (v3 : List PV) (v4 : Int) (v5 : Int) (v6 : Bool) (v7 : List PV), Jo tau 0 XS (fun s k => ev tau F70 0 0 Jch (JeQ ) s k) n (Jc XS N70 [.ow 5 592 [] 0 v0 none, .ro 29 v1 v2 v3, .sc (.int .i64 v4), .sc (.int .i64 v5)] [(592, .vec false 5 v6 v7)]) (Jv tau 0 YP k) = Xe f (fun x0 x1 x2 => k (Ex.exit 2) (Jc YP N70 [.ow 5 592 [] 0 x0 none] [(592, .vec false 5 x1 x2)])) n v0 v1 v2 v3 v4 v5 v6 v7 | 0, _, _, _, _, _, _, _, _ => rfl | n + 1, v0, v1, v2, v3, v4, v5, v6, v7 => (JmT f k n v0 v1 v2 v3 v4 v5 v6 v7).trans (congrArg (fun r => Vy f r (fun x0 x1 x2 => k (Ex.exit 2) (Jc YP N70 [.ow 5 592 [] 0 x0 none] [(592, .vec false 5 x1 x2)])) v0 v1 v2 v3 v4 v5 v6 v7) (by funext v0 v1 v2 v3 v4 v5 v6 v7; exact JhR f k n v0 v1 v2 v3 v4 v5 v6 v7))
noncomputable def Ja5 (f : Nat) : List PV → List (Nat × Ent) → Kont → Option Res
  | [.ow 5 592 [] 0 v0 none, .ro 29 v1 v2 v3, .sc (.int .i64 v4),
  PV.sc
    (Value.int IntKind.i64
      v5)], [(592, .vec false 5 v6 v7)], k => Xe f (fun x0 x1 x2 => k (Ex.exit 2) (Jc YP N70 [.ow 5 592 [] 0 x0 none] [(592, .vec false 5 x1 x2)])) f v0 v1 v2 v3 v4 v5 v6 v7
  | _, _, _ => none
theorem Jrg (f : Nat) : Jg Jch JeQ = [] := by kernel_rfl
theorem JuT (f : Nat) : (Item.l Jch XS N70 (Ja5 f)).Ok tau Try.prog 0 := JJ Jq Jgo Jr (x := JeQ) (nm2 := YP) (Jp _ _ (by rw [Jrg f]; intro q hq; cases hq)) fun vs hp k res hr => by
  unfold Ja5 at hr
  split at hr
  · exact ⟨f, 0, (JhR f _ f _ _ _ _ _ _ _ _ ).trans hr⟩
  · cases hr
noncomputable def g70 (f : Nat) (slices_z : Bool) (slices_f : Bool) (slices : List PV) (k : Res → Option Res) : Option Res := ZV f (fun x0_0 x1_0 x2_0 x3_0 => bif decide (x3_0 < 0) then none else bif decide (IntKind.i64.wrap (x3_0 - IntKind.i64.wrap (zi 0 - zi 0)) > 0) then bif decide (0 ≤ IntKind.i64.wrap (x3_0 - IntKind.i64.wrap (zi 0 - zi 0))) && Jj (IntKind.i64.wrap (x3_0 - IntKind.i64.wrap (zi 0 - zi 0))).toNat 1 && true then Xe f (fun x0_1 x1_1 x2_1 => k (Res.mk (.ow 5 16 [] 0 x0_1 none) [] [.vec false 5 x1_1 x2_1])) f (0) x0_0 x1_0 x2_0 (zi x2_0.length) (0) (IntKind.i64.wrap (x3_0 - IntKind.i64.wrap (zi 0 - zi 0)) == 0) (List.replicate (IntKind.i64.wrap (x3_0 - IntKind.i64.wrap (zi 0 - zi 0))).toNat (.sc (.int .u8 0))) else none else Xe f (fun x0_2 x1_2 x2_2 => k (Res.mk (.ow 5 16 [] 0 x0_2 none) [] [.vec false 5 x1_2 x2_2])) f (0) x0_0 x1_0 x2_0 (zi x2_0.length) (0) true ([])) f slices_z slices_f slices (0) slices_z slices_f slices (zi slices.length) (0)
theorem e70 (f : Nat) (slices_z : Bool) (slices_f : Bool) (slices : List PV) (k : Res → Option Res) : JM tau F70 Try.f70 (Try.f70.body.get!) (JmR (Ja4 f) (Ja5 f)) [] 0 [.ro 29 slices_z slices_f slices] [] k = g70 f slices_z slices_f slices k := by kernel_rfl
theorem Jy5 (f : Nat) : Jg (Try.f70.body.get!) (JmR (Ja4 f) (Ja5 f)) = [.l Jcg XR N70 (Ja4 f), .l Jch XS N70 (Ja5 f)] := by kernel_rfl
theorem Jy6 (f : Nat) : ∀ q ∈ Jg (Try.f70.body.get!) (JmR (Ja4 f) (Ja5 f)), q.Ok tau Try.prog 0 := by
  rw [Jy5 f]; simp only [List.forall_mem_cons, List.not_mem_nil, false_implies, implies_true, and_true]; exact ⟨JuS f, JuT f⟩
theorem JuU : Try.prog.funcs[70]? = some Try.f70 := by kernel_rfl
theorem JuV : Try.f70.body = some (Try.f70.body.get!) := by kernel_rfl
theorem Jrh : Enters Try.prog 70 := enters_of JuU (by kernel_rfl) JuV
-- FN slices.Concat[[]byte,byte]
def Jl (l : List PV) : List PV := (l.map PV.els).flatten
@[simp] theorem Jkm : Jl [] = [] := rfl
@[simp] theorem Zt (p : PV) (l : List PV) : Jl (p :: l) = p.els ++ Jl l := by simp [Jl]
theorem GZ (a b : List PV) : Jl (a ++ b) = Jl a ++ Jl b := by simp [Jl]
theorem Ja6 (l : List PV) (i : Nat) (h : i < l.length) : l.take (i + 1) = l.take i ++ [l.getD i .top] := by
  rw [List.take_add_one, List.getD_eq_getElem?_getD, List.getElem?_eq_getElem h]; rfl
theorem Jgp (l : List PV) (i : Nat) (h : i < l.length) : l.drop i = l.getD i .top :: l.drop (i + 1) := by
  rw [List.drop_eq_getElem_cons h, List.getD_eq_getElem?_getD, List.getElem?_eq_getElem h]; rfl
theorem Gs (l : List PV) (i : Nat) (h : i < l.length) : Jl (l.take (i + 1)) = Jl (l.take i) ++ (l.getD i .top).els := by
  rw [Ja6 l i h, GZ, Zt, Jkm, List.append_nil]
theorem Vz (l : List PV) (i : Nat) : (Jl (l.take i)).length ≤ (Jl l).length := by
  have : Jl l = Jl (l.take i) ++ Jl (l.drop i) := by rw [← GZ, List.take_append_drop]
  rw [this, List.length_append]; omega
theorem Jci {l : List PV} (h : l.all (PV.isRo 5) = true) {i : Nat} (hi : i < l.length) : (l.getD i .top).isRo 5 = true := by
  rw [List.getD_eq_getElem?_getD, List.getElem?_eq_getElem hi]
  exact List.all_eq_true.1 h _ (List.getElem_mem hi)
theorem JeR {α : Type} (a b : List α) : (a ++ b).isEmpty = (a.isEmpty && b.isEmpty) := by cases a <;> rfl
theorem Jpb (f : Nat) (k0 : Bool → Bool → List PV → Int → Option Res) (a b : Bool) (c : List PV) (nl fl : Bool) (l : List PV) (hl : l.all (PV.isRo 5) = true) (hs : (Jl l).length ≤ 140737488355328) (hn : l.length ≤ 140737488355328) : ∀ (d i n : Nat), i + d = l.length → d < n →
    ZV f k0 n a b c ((Jl (l.take i)).length : Int) nl fl l (l.length : Int) (i : Int) = k0 a b c ((Jl l).length : Int)
  | 0, i, n + 1, h, hd => by
      obtain rfl : i = l.length := by omega
      simp only [ZV, Vx]
      exact (JA (by simp)).trans (by rw [List.take_length])
  | d + 1, i, n + 1, h, hd => by
      have hle := Vz l (i + 1)
      have hadd : (Jl (l.take (i + 1))).length = (Jl (l.take i)).length + (l.getD i .top).els.length := by rw [Gs l i (by omega), List.length_append]
      have h1 : IntKind.i64.wrap ((i : Int) + 1) = ((i + 1 : Nat) : Int) := by rw [wrap_i64 (by omega) (by omega)]; omega
      have h2 : IntKind.i64.wrap (((Jl (l.take i)).length : Int) + ((l.getD i .top).els.length : Int)) = ((Jl (l.take (i + 1))).length : Int) := by rw [wrap_i64 (by omega) (by omega)]; omega
      simp only [ZV, Vx, zi, Int.toNat_natCast, h1, h2]
      refine (Ja (by simp <;> omega)).trans ?_
      refine (Ja (by rw [Jci hl (by omega)]; simp; omega)).trans ?_
      refine (JA (by simp <;> omega)).trans ?_
      exact Jpb f k0 a b c nl fl l hl hs hn d (i + 1) n (by omega) (by omega)
theorem Jkn (f : Nat) (k0 : Nat → Bool → List PV → Option Res) (nl fl : Bool) (l : List PV) (hl : l.all (PV.isRo 5) = true) (hs : (Jl l).length ≤ 140737488355328) (hn : l.length ≤ 140737488355328) : ∀ (d i n : Nat) (z : Bool) (v : List PV), i + d = l.length → d < n → v.take (Jl (l.take i)).length = Jl (l.take i) → (d = 0 → v = Jl l) →
    Xe f k0 n (Jl (l.take i)).length nl fl l (l.length : Int) (i : Int) z v = k0 (Jl l).length (z && (Jl (l.drop i)).isEmpty) (Jl l)
  | 0, i, n + 1, z, v, h, hd, hv, h0 => by
      obtain rfl : i = l.length := by omega
      simp only [Xe, Vy]
      refine (JA (by simp)).trans ?_
      rw [List.take_length, h0 rfl, List.drop_length]; simp
  | d + 1, i, n + 1, z, v, h, hd, hv, h0 => by
      have hle := Vz l (i + 1)
      have hadd : (Jl (l.take (i + 1))).length = (Jl (l.take i)).length + (l.getD i .top).els.length := by rw [Gs l i (by omega), List.length_append]
      have h1 : IntKind.i64.wrap ((i : Int) + 1) = ((i + 1 : Nat) : Int) := by rw [wrap_i64 (by omega) (by omega)]; omega
      simp only [Xe, Vy, zi, Int.toNat_natCast, h1, hv]
      refine (Ja (by simp <;> omega)).trans ?_
      refine (Ja (by rw [Jci hl (by omega)]; simp; omega)).trans ?_
      refine (Ja (by simp only [Jj, Bool.and_true, decide_eq_true_eq]; omega)).trans ?_
      have := Jkn f k0 nl fl l hl hs hn d (i + 1) n (z && (l.getD i .top).els.isEmpty) (Jl (l.take (i + 1))) (by omega) (by omega) (List.take_length) (fun hd0 => by rw [show i + 1 = l.length from by omega, List.take_length])
      rw [hadd, Gs l i (by omega)] at this
      rw [this, Jgp l i (by omega), Zt, JeR, Bool.and_assoc]
def Jgq : List PV → List Ent → (Res → Option Res) → Option Res
  | [.ro 29 nl fl l], [], k => bif l.all (PV.isRo 5) && (decide ((Jl l).length ≤ 140737488355328) && decide (l.length ≤ 140737488355328)) then k ⟨.ow 5 16 [] 0 (Jl l).length none, [], [.vec false 5 (Jl l).isEmpty (Jl l)]⟩ else none
  | _, _, _ => none
def JmU : Sig := { own := [], run := Jgq }
theorem Jri (nl fl : Bool) (l : List PV) (k : Res → Option Res) (hl : l.all (PV.isRo 5) = true) (hs : (Jl l).length ≤ 140737488355328) (hn : l.length ≤ 140737488355328) :
    g70 (l.length + 1) nl fl l k = k ⟨.ow 5 16 [] 0 (Jl l).length none, [], [.vec false 5 (Jl l).isEmpty (Jl l)]⟩ := by
  have h0 := Jpb (l.length + 1) (fun x0_0 x1_0 x2_0 x3_0 =>
    bif decide (x3_0 < 0) then
      none
    else bif decide (IntKind.i64.wrap (x3_0 - IntKind.i64.wrap (zi 0 - zi 0)) > 0) then
      bif decide (0 ≤ IntKind.i64.wrap (x3_0 - IntKind.i64.wrap (zi 0 - zi 0))) && Jj (IntKind.i64.wrap (x3_0 - IntKind.i64.wrap (zi 0 - zi 0))).toNat 1 && true then
        Xe (l.length + 1) (fun x0_1 x1_1 x2_1 =>
          k (Res.mk (PV.ow 5 16 [] 0 x0_1 none) []
            [Ent.vec false 5 x1_1
                x2_1])) (l.length + 1) (0) x0_0 x1_0 x2_0 (zi
          x2_0.length) (0) (IntKind.i64.wrap (x3_0 - IntKind.i64.wrap (zi 0 - zi 0)) ==
          0) (List.replicate (IntKind.i64.wrap (x3_0 - IntKind.i64.wrap (zi 0 - zi 0))).toNat (PV.sc (Value.int IntKind.u8 0)))
      else none
    else Xe (l.length + 1) (fun x0_2 x1_2 x2_2 =>
      k (Res.mk (PV.ow 5 16 [] 0 x0_2 none) [] [Ent.vec false 5 x1_2 x2_2])) (l.length + 1) (0) x0_0 x1_0 x2_0 (zi x2_0.length) (0) true ([])) nl fl l nl fl l hl hs hn l.length 0 (l.length + 1) (by omega) (by omega)
  refine h0.trans ?_
  have hw : IntKind.i64.wrap (((Jl l).length : Int) - IntKind.i64.wrap (zi 0 - zi 0)) = ((Jl l).length : Int) := by
    have : IntKind.i64.wrap (zi 0 - zi 0) = 0 := by decide
    rw [this, wrap_i64 (by omega) (by omega)]; omega
  simp only [hw]
  refine (JA (by simp <;> omega)).trans ?_
  cases he : (Jl l).isEmpty with
  | true =>
    have he' : Jl l = [] := by simpa using he
    refine (JA (by simp [he'])).trans ?_
    have := Jkn (l.length + 1) (fun x0_2 x1_2 x2_2 => k (Res.mk (PV.ow 5 16 [] 0 x0_2 none) [] [Ent.vec false 5 x1_2 x2_2])) nl fl l hl hs hn l.length 0 (l.length + 1) true [] (by omega) (by omega) (by simp) (fun _ => he'.symm)
    refine this.trans ?_
    simp [he']
  | false =>
    have he' : Jl l ≠ [] := by simpa using he
    have hpos : 0 < (Jl l).length := List.length_pos_iff.2 he'
    have hl0 : l.length ≠ 0 := by
      intro h; rw [List.length_eq_zero_iff] at h; subst h; simp at he'
    refine (Ja (by simp <;> omega)).trans ?_
    refine (Ja (by simp [Jj] <;> omega)).trans ?_
    have := Jkn (l.length + 1) (fun x0_2 x1_2 x2_2 => k (Res.mk (PV.ow 5 16 [] 0 x0_2 none) [] [Ent.vec false 5 x1_2 x2_2])) nl fl l hl hs hn l.length 0 (l.length + 1) (((Jl l).length : Int) == 0) (List.replicate (((Jl l).length : Int)).toNat (PV.sc (Value.int IntKind.u8 0))) (by omega) (by omega) (by simp) (fun h => absurd h hl0)
    refine this.trans ?_
    have hz : (((Jl l).length : Int) == 0) = false := by simp [he']
    rw [hz]; rfl
theorem Jko : Jh tau Try.prog 70 JmU := Jf6 Jq Jgo Jr JuU JuV (fun n => JmR (Ja4 n) (Ja5 n)) [] 0 [] Jgq (fun n => Jy6 n) fun xs es k res hr => by
  unfold Jgq at hr
  split at hr
  · rename_i nl fl l
    obtain ⟨hc, hr⟩ := JH hr
    simp only [Bool.and_eq_true, decide_eq_true_eq] at hc
    refine ⟨rfl, l.length + 1, 0, (e70 _ _ _ _ _).trans ?_⟩
    rw [Jri _ _ _ _ hc.1 hc.2.1 hc.2.2]; exact hr
  · cases hr
def N69 : Nat := 33
noncomputable def F69 : Fns := F0
theorem Jgr : Jx tau Try.prog F69 := JE
noncomputable def Ja7 : Code := Qs (Try.f69.body.get!) [1, 0, 1, 1, 1, 1, 0, 1, 0, 0]
def Xf : Nm := [(0, .any), (3, .any), (19, .any)]
def YQ : Nm := [(0, .any)]
def JeS : An := (.seq .leaf (.seq (.cond .leaf .leaf) (.seq (.block none (.seq .leaf .leaf)) .leaf)))
noncomputable def VA : Code := Qs (Try.f69.body.get!) [1, 0]
def XT : Nm := [(0, .any), (3, .any)]
def YR : Nm := [(2, .any)]
def Jcj (r1 : QZ) : An := (.seq .leaf (.seq .leaf (.seq .leaf (.seq (.seq .leaf (.cond (.seq .leaf .leaf) .leaf)) (.seq (.seq .leaf (.block none (.sum Xf N69 r1))) (.seq .leaf .leaf))))))
def Jrj (r0 : Jtv) (r1 : QZ) : An := (.seq .leaf (.ssum XT N69 (Jcj r1) r0))
noncomputable def VB (f : Nat) (rc : Nat → Int → Int → Bool → List PV → Option Res) (k0 : Nat → Bool → List PV → Option Res) (v0 : Nat) (v1 : Int) (v2 : Int) (v3 : Bool) (v4 : List PV) : Option Res := bif decide (v2 < 8) then bif decide (0 ≤ IntKind.i64.wrap (56 - IntKind.i64.wrap (8 * v2))) && true then bif Jj (v0 + 1) 1 && true then rc (v0 + 1) v1 (IntKind.i64.wrap (v2 + 1)) (v3 && false) (List.take v0 v4 ++ [.sc (.int .u8 (IntKind.u8.wrap (Jw IntKind.u64 v1 (IntKind.i64.wrap (56 - IntKind.i64.wrap (8 * v2))))))]) else none else none else k0 v0 v3 v4
noncomputable def Xg (f : Nat) (k0 : Nat → Bool → List PV → Option Res) : Nat → Nat → Int → Int → Bool → List PV → Option Res
  | 0, _, _, _, _, _ => none
  | n + 1, v0, v1, v2, v3, v4 => VB f (Xg f k0 n) k0 v0 v1 v2 v3 v4
theorem JmV (f : Nat) (k : Kont) (n : Nat) (v0 : Nat) (v1 : Int) (v2 : Int) (v3 : Bool) (v4 : List PV) : Jo tau 1 Xf (fun s k => ev tau F69 1 0 Ja7 (JeS ) s k) (n + 1) (Jc Xf N69 [.ow 5 545 [] 0 v0 none, .sc (.int .u64 v1), .sc (.int .i64 v2)] [(0, .dead), (545, .vec false 5 v3 v4)]) (Jv tau 1 YQ k) = VB f (fun v0 v1 v2 v3 v4 => Jo tau 1 Xf (fun s k => ev tau F69 1 0 Ja7 (JeS ) s k) n (Jc Xf N69 [.ow 5 545 [] 0 v0 none, .sc (.int .u64 v1), .sc (.int .i64 v2)] [(0, .dead), (545, .vec false 5 v3 v4)]) (Jv tau 1 YQ k)) (fun x0 x1 x2 => k (Ex.exit 0) (Jc YQ N69 [.ow 5 545 [] 0 x0 none] [(0, .dead), (545, .vec false 5 x1 x2)])) v0 v1 v2 v3 v4 := by kernel_rfl
theorem JhS (f : Nat) (k : Kont) : ∀ (n : Nat) (v0 : Nat) (v1 : Int) (v2 : Int) (v3 : Bool) (v4 : List PV), Jo tau 1 Xf (fun s k => ev tau F69 1 0 Ja7 (JeS ) s k) n (Jc Xf N69 [.ow 5 545 [] 0 v0 none, .sc (.int .u64 v1), .sc (.int .i64 v2)] [(0, .dead), (545, .vec false 5 v3 v4)]) (Jv tau 1 YQ k) = Xg f (fun x0 x1 x2 => k (Ex.exit 0) (Jc YQ N69 [.ow 5 545 [] 0 x0 none] [(0, .dead), (545, .vec false 5 x1 x2)])) n v0 v1 v2 v3 v4 | 0, _, _, _, _, _ => rfl | n + 1, v0, v1, v2, v3, v4 => (JmV f k n v0 v1 v2 v3 v4).trans (congrArg (fun r => VB f r (fun x0 x1 x2 => k (Ex.exit 0) (Jc YQ N69 [.ow 5 545 [] 0 x0 none] [(0, .dead), (545, .vec false 5 x1 x2)])) v0 v1 v2 v3 v4) (by funext v0 v1 v2 v3 v4; exact JhS f k n v0 v1 v2 v3 v4))
noncomputable def Yj (f : Nat) : List PV → List (Nat × Ent) → Kont → Option Res
  | [.ow 5 545 [] 0 v0 none, .sc (.int .u64 v1),
  PV.sc
    (Value.int IntKind.i64
      v2)], [(0, .dead),
  (545, .vec false 5 v3 v4)], k => Xg f (fun x0 x1 x2 => k (Ex.exit 0) (Jc YQ N69 [.ow 5 545 [] 0 x0 none] [(0, .dead), (545, .vec false 5 x1 x2)])) f v0 v1 v2 v3 v4
  | _, _, _ => none
theorem Jrk (f : Nat) : Jg Ja7 JeS = [] := by kernel_rfl
theorem Jpc (f : Nat) : (Item.l Ja7 Xf N69 (Yj f)).Ok tau Try.prog 1 := JJ Jq Jgr Jr (x := JeS) (nm2 := YQ) (Jp _ _ (by rw [Jrk f]; intro q hq; cases hq)) fun vs hp k res hr => by
  unfold Yj at hr
  split at hr
  · exact ⟨f, 0, (JhS f _ f _ _ _ _ _ ).trans hr⟩
  · cases hr
noncomputable def VC (f : Nat) (rc : Nat → Int → Bool → List PV → Option Res) (k0 : Nat → Bool → List PV → Option Res) (v0 : Nat) (v1 : Int) (v2 : Bool) (v3 : List PV) : Option Res := bif (zi v0).tmod 64 != 56 then bif Jj (v0 + 1) 1 && true then rc (v0 + 1) v1 (v2 && false) (List.take v0 v3 ++ [.sc (.int .u8 0)]) else none else Xg f (fun x0_0 x1_0 x2_0 => k0 x0_0 x1_0 x2_0) f v0 v1 (0) v2 v3
noncomputable def ZW (f : Nat) (k0 : Nat → Bool → List PV → Option Res) : Nat → Nat → Int → Bool → List PV → Option Res
  | 0, _, _, _, _ => none
  | n + 1, v0, v1, v2, v3 => VC f (ZW f k0 n) k0 v0 v1 v2 v3
theorem JmW (f : Nat) (k : Kont) (n : Nat) (v0 : Nat) (v1 : Int) (v2 : Bool) (v3 : List PV) : QG tau 1 XT (hasLabel VA) (fun l s k => J5 tau F69 1 0 VA (Jcj (Yj f)) l s k) (n + 1) 0 (Jc XT N69 [.ow 5 545 [] 0 v0 none, .sc (.int .u64 v1)] [(0, .dead), (545, .vec false 5 v2 v3)]) (Jv tau 1 YR k) = VC f (fun v0 v1 v2 v3 => QG tau 1 XT (hasLabel VA) (fun l s k => J5 tau F69 1 0 VA (Jcj (Yj f)) l s k) n 0 (Jc XT N69 [.ow 5 545 [] 0 v0 none, .sc (.int .u64 v1)] [(0, .dead), (545, .vec false 5 v2 v3)]) (Jv tau 1 YR k)) (fun x0 x1 x2 => k Ex.ret (Jc YR N69 [.ow 5 545 [] 0 x0 none] [(0, .dead), (545, .vec false 5 x1 x2)])) v0 v1 v2 v3 := by kernel_rfl
theorem JhT (f : Nat) (k : Kont) : ∀ (n : Nat) (v0 : Nat) (v1 : Int) (v2 : Bool) (v3 : List PV), QG tau 1 XT (hasLabel VA) (fun l s k => J5 tau F69 1 0 VA (Jcj (Yj f)) l s k) n 0 (Jc XT N69 [.ow 5 545 [] 0 v0 none, .sc (.int .u64 v1)] [(0, .dead), (545, .vec false 5 v2 v3)]) (Jv tau 1 YR k) = ZW f (fun x0 x1 x2 => k Ex.ret (Jc YR N69 [.ow 5 545 [] 0 x0 none] [(0, .dead), (545, .vec false 5 x1 x2)])) n v0 v1 v2 v3 | 0, _, _, _, _ => rfl | n + 1, v0, v1, v2, v3 => (JmW f k n v0 v1 v2 v3).trans (congrArg (fun r => VC f r (fun x0 x1 x2 => k Ex.ret (Jc YR N69 [.ow 5 545 [] 0 x0 none] [(0, .dead), (545, .vec false 5 x1 x2)])) v0 v1 v2 v3) (by funext v0 v1 v2 v3; exact JhT f k n v0 v1 v2 v3))
noncomputable def Jck (f : Nat) : Nat → List PV → List (Nat × Ent) → Kont → Option Res
  | 0, [.ow 5 545 [] 0 v0 none,
  PV.sc
    (Value.int IntKind.u64
      v1)], [(0, .dead),
  (545, .vec false 5 v2 v3)], k => ZW f (fun x0 x1 x2 => k Ex.ret (Jc YR N69 [.ow 5 545 [] 0 x0 none] [(0, .dead), (545, .vec false 5 x1 x2)])) f v0 v1 v2 v3
  | _, _, _, _ => none
theorem Jrl (f : Nat) : Jg VA (Jcj (Yj f)) = [.l Ja7 Xf N69 (Yj f)] := by kernel_rfl
theorem JuW (f : Nat) : (Item.s VA XT N69 (Jck f)).Ok tau Try.prog 1 := JaX Jq Jgr Jr (x := (Jcj (Yj f))) (nm2 := YR) (Jp _ _ (by rw [Jrl f]; simp only [List.forall_mem_cons, List.not_mem_nil, false_implies, implies_true, and_true]; exact Jpc f)) fun l vs hp k res hr => by
  unfold Jck at hr
  split at hr
  · exact ⟨f, 0, (JhT f _ f _ _ _ _ ).trans hr⟩
  · cases hr
noncomputable def g69 (f : Nat) (nl : Bool) (l : List PV) (n : Nat) (k : Res → Option Res) : Option Res := bif Jj (n + 1) 1 && true then bif (zi (n + 1)).tmod 64 != 56 then bif Jj (n + 1 + 1) 1 && true then ZW f (fun x0_1 x1_1 x2_1 => k (Res.mk (.ow 5 16 [] 0 x0_1 none) [.dead] [.vec false 5 x1_1 x2_1])) f (n + 1 + 1) (IntKind.u64.wrap (IntKind.u64.wrap (zi n) * 8)) (nl && false && false) (List.take (n + 1) (List.take n l ++ [.sc (.int .u8 128)]) ++ [.sc (.int .u8 0)]) else none else Xg f (fun x0_2 x1_2 x2_2 => k (Res.mk (.ow 5 16 [] 0 x0_2 none) [.dead] [.vec false 5 x1_2 x2_2])) f (n + 1) (IntKind.u64.wrap (IntKind.u64.wrap (zi n) * 8)) (0) (nl && false) (List.take n l ++ [.sc (.int .u8 128)]) else none
theorem e69 (f : Nat) (nl : Bool) (l : List PV) (n : Nat) (k : Res → Option Res) : JM tau F69 Try.f69 (Try.f69.body.get!) (Jrj (Jck f) (Yj f)) [] 0 [.ow 5 0 [] 0 n none] [.vec false 5 nl l] k = g69 f nl l n k := by kernel_rfl
theorem Jy7 (f : Nat) : Jg (Try.f69.body.get!) (Jrj (Jck f) (Yj f)) = [.s VA XT N69 (Jck f), .l Ja7 Xf N69 (Yj f)] := by kernel_rfl
theorem Jy8 (f : Nat) : ∀ q ∈ Jg (Try.f69.body.get!) (Jrj (Jck f) (Yj f)), q.Ok tau Try.prog 1 := by
  rw [Jy7 f]; simp only [List.forall_mem_cons, List.not_mem_nil, false_implies, implies_true, and_true]; exact ⟨JuW f, Jpc f⟩
theorem JuX : Try.prog.funcs[69]? = some Try.f69 := by kernel_rfl
theorem JuY : Try.f69.body = some (Try.f69.body.get!) := by kernel_rfl
theorem Jy9 : Enters Try.prog 69 := enters_of JuX (by kernel_rfl) JuY
-- FN sha.padded
def Jrm (n : Int) (i : Nat) : Int := IntKind.u8.wrap (Jw .u64 n (56 - 8 * (i : Int)))
theorem Jpd (f : Nat) (N : Int) (k0 : Nat → Bool → List PV → Option Res) (L : List Int) (hL : L.length ≤ 140737488355300) : ∀ (d i n : Nat) (z : Bool), i + d = 8 → d < n → (d = 0 → z = false) →
    Xg f k0 n (L.length + i) N (i : Int) z (pu .u8 (L ++ (List.range i).map (Jrm N))) = k0 (L.length + 8) false (pu .u8 (L ++ (List.range 8).map (Jrm N)))
  | 0, i, n + 1, z, h, hn, hz => by
      obtain rfl : i = 8 := by omega
      simp only [Xg, VB]
      rw [hz rfl]
      exact JA (by decide)
  | d + 1, i, n + 1, z, h, hn, hz => by
      have h1 : IntKind.i64.wrap ((i : Int) + 1) = ((i + 1 : Nat) : Int) := by rw [wrap_i64 (by omega) (by omega)]; omega
      have h8 : IntKind.i64.wrap (8 * (i : Int)) = 8 * (i : Int) := wrap_i64 (by omega) (by omega)
      have h9 : IntKind.i64.wrap (56 - 8 * (i : Int)) = 56 - 8 * (i : Int) := wrap_i64 (by omega) (by omega)
      have c1 : decide ((i : Int) < 8) = true := by simp; omega
      have c2 : decide (0 ≤ 56 - 8 * (i : Int)) = true := by simp; omega
      have c3 : Jj (L.length + i + 1) 1 = true := by simp [Jj]; omega
      have hlen : (L ++ (List.range i).map (Jrm N)).length = L.length + i := by simp
      simp only [Xg, VB, h1, h8, h9, c1, c2, c3, Bool.and_true, cond_true, WW, Bool.and_false]
      rw [List.take_of_length_le (by omega)]
      have := Jpd f N k0 L hL d (i + 1) n false (by omega) (by omega) (fun _ => rfl)
      rw [List.range_succ, List.map_append, ← List.append_assoc, JO] at this
      exact this
theorem Jpe (f : Nat) (N : Int) (k0 : Nat → Bool → List PV → Option Res) (hf : 9 ≤ f) : ∀ (d n : Nat) (L : List Int) (z : Bool), zs L.length = d → d < n → L.length + d ≤ 140737488355200 →
    ZW f k0 n L.length N z (pu .u8 L) = Xg f k0 f (L.length + d) N 0 (z && decide (d = 0)) (pu .u8 (L ++ List.replicate d 0))
  | 0, n + 1, L, z, hd, hn, hL => by
      simp only [ZW, VC, Ja3]
      refine (JA (by simp [zs] at hd ⊢; omega)).trans ?_
      simp
  | d + 1, n + 1, L, z, hd, hn, hL => by
      have hlt : d + 1 < 64 := by rw [← hd]; unfold zs; omega
      have c3 : Jj (L.length + 1) 1 = true := by simp [Jj]; omega
      simp only [ZW, VC, Ja3, c3, Bool.and_true, cond_true, WW, Bool.and_false]
      refine (Ja (by simp [zs] at hd ⊢; omega)).trans ?_
      rw [List.take_of_length_le (Nat.le_refl _)]
      have := Jpe f N k0 hf d n (L ++ [0]) false (by simp [zs] at hd ⊢; omega) (by omega) (by simp; omega)
      simp only [List.length_append, List.length_cons, List.length_nil, Nat.zero_add, JO] at this
      refine this.trans ?_
      rw [show L.length + 1 + d = L.length + (d + 1) from by omega, List.replicate_succ]
      simp
theorem Jrn (nl : Bool) (bs : List Int) (hb : bs.length ≤ 140737488355000) (k : Res → Option Res) : g69 100 nl (pu .u8 bs) bs.length k = k ⟨.ow 5 16 [] 0 (Qo bs).length none, [.dead], [.vec false 5 false (pu .u8 (Qo bs))]⟩ := by
  have c1 : (Jj (bs.length + 1) 1 && true) = true := by simp [Jj]; omega
  have c2 : (Jj (bs.length + 1 + 1) 1 && true) = true := by simp [Jj]; omega
  have hlen : (Qo bs).length = bs.length + 1 + zs (bs.length + 1) + 8 := by simp [Qo, JmI]; omega
  have hz : zs (bs.length + 1) < 64 := by unfold zs; omega
  refine (Ja c1).trans ?_
  rw [Ja3, WW, List.take_of_length_le (Nat.le_refl _)]
  have fin : ∀ z, Xg 100 (fun x0_2 x1_2 x2_2 => k (Res.mk (PV.ow 5 16 [] 0 x0_2 none) [Ent.dead] [Ent.vec false 5 x1_2 x2_2])) 100 (bs.length + 1 + zs (bs.length + 1)) (IntKind.u64.wrap (IntKind.u64.wrap (zi bs.length) * 8)) 0 z (pu .u8 (bs ++ [128] ++ List.replicate (zs (bs.length + 1)) 0)) = k ⟨.ow 5 16 [] 0 (Qo bs).length none, [.dead], [.vec false 5 false (pu .u8 (Qo bs))]⟩ := by
    intro z
    have := Jpd 100 (IntKind.u64.wrap (IntKind.u64.wrap (zi bs.length) * 8)) (fun x0_2 x1_2 x2_2 => k (Res.mk (PV.ow 5 16 [] 0 x0_2 none) [Ent.dead] [Ent.vec false 5 x1_2 x2_2])) (bs ++ [128] ++ List.replicate (zs (bs.length + 1)) 0) (by simp; omega) 8 0 100 z (by omega) (by omega) (by omega)
    have hl2 : (bs ++ [128] ++ List.replicate (zs (bs.length + 1)) 0).length = bs.length + 1 + zs (bs.length + 1) := by simp; omega
    rw [hl2] at this
    simp only [List.range_zero, List.map_nil, List.append_nil, Nat.add_zero] at this
    rw [hlen]
    exact this
  cases hc : (((((bs.length + 1) % 64 : Nat) : Int)) != 56) with
  | true =>
    refine (Ja rfl).trans ((Ja c2).trans ?_)
    have hc' : ((bs.length + 1) % 64 : Nat) ≠ 56 := by simp at hc; omega
    have hz1 : zs (bs.length + 1 + 1) + 1 = zs (bs.length + 1) := by unfold zs; omega
    have := Jpe 100 (IntKind.u64.wrap (IntKind.u64.wrap (zi bs.length) * 8)) (fun x0_1 x1_1 x2_1 => k (Res.mk (PV.ow 5 16 [] 0 x0_1 none) [Ent.dead] [Ent.vec false 5 x1_1 x2_1])) (by omega) (zs (bs.length + 1 + 1)) 100 (bs ++ [128] ++ [0]) (nl && false && false) (by simp) (by unfold zs; omega) (by simp; omega)
    have h0 : pu .u8 (bs ++ [128] ++ [0]) = List.take (bs.length + 1) (pu .u8 bs ++ [PV.sc (Value.int IntKind.u8 128)]) ++ [PV.sc (Value.int IntKind.u8 0)] := by
      rw [List.take_of_length_le (by simp)]; simp
    rw [h0] at this
    simp only [List.length_append, List.length_cons, List.length_nil, Nat.zero_add] at this
    refine this.trans ?_
    have h3 : bs ++ [128] ++ [0] ++ List.replicate (zs (bs.length + 1 + 1)) 0 = bs ++ [128] ++ List.replicate (zs (bs.length + 1)) 0 := by
      rw [← hz1, List.replicate_succ]; simp
    rw [h3, show bs.length + 1 + 1 + zs (bs.length + 1 + 1) = bs.length + 1 + zs (bs.length + 1) from by omega]
    exact fin _
  | false =>
    refine (JA rfl).trans ?_
    have hc' : ((bs.length + 1) % 64 : Nat) = 56 := by simp at hc; omega
    have hz0 : zs (bs.length + 1) = 0 := by unfold zs; omega
    have := fin (nl && false)
    rw [hz0] at this
    simpa using this
def Jgs : List PV → List Ent → (Res → Option Res) → Option Res
  | [.ow 5 0 [] 0 n none], [.vec false 5 nl l], k => bif Je .u8 l && (decide (n = l.length) && decide (l.length ≤ 140737488355000)) then k ⟨.ow 5 16 [] 0 (Qo (Jf l)).length none, [.dead], [.vec false 5 false (pu .u8 (Qo (Jf l)))]⟩ else none
  | _, _, _ => none
def JuZ : Sig := { own := [true], run := Jgs }
theorem Ju0 : Jh tau Try.prog 69 JuZ := JY Jq Jgr Jr JuX JuY _ [] 1 [true] Jgs (Jy8 100) fun xs es k res hr => by
  unfold Jgs at hr
  split at hr
  · obtain ⟨hc, hr⟩ := JH hr
    simp only [Bool.and_eq_true, decide_eq_true_eq] at hc
    refine ⟨rfl, 0, (e69 100 _ _ _ _).trans ?_⟩
    rw [hc.2.1, Qb hc.1, JI, Jrn _ _ (by simpa using hc.2.2)]
    exact hr
  · cases hr
noncomputable def F68 : Fns := F0
theorem Jro : Jx tau Try.prog F68 := JE
def JmX : An := (.seq .leaf (.seq .leaf .leaf))
noncomputable def g68 (f : Nat) (k : Res → Option Res) : Option Res := k (Res.mk (.ar 113 [.sc (.int .u32 1779033703), .sc (.int .u32 3144134277), .sc (.int .u32 1013904242), .sc (.int .u32 2773480762), .sc (.int .u32 1359893119), .sc (.int .u32 2600822924), .sc (.int .u32 528734635), .sc (.int .u32 1541459225)]) [] [])
theorem e68 (f : Nat) (k : Res → Option Res) : JM tau F68 Try.f68 (Try.f68.body.get!) JmX [.ro] 0 [] [] k = g68 f k := by kernel_rfl
theorem Jza (f : Nat) : Jg (Try.f68.body.get!) JmX = [] := by kernel_rfl
theorem Jzb (f : Nat) : ∀ q ∈ Jg (Try.f68.body.get!) JmX, q.Ok tau Try.prog 0 := by
  rw [Jza f]; intro q hq; cases hq
theorem Ju1 : Try.prog.funcs[68]? = some Try.f68 := by kernel_rfl
theorem Ju2 : Try.f68.body = some (Try.f68.body.get!) := by kernel_rfl
theorem Jzc : Enters Try.prog 68 := enters_of Ju1 (by kernel_rfl) Ju2
noncomputable def Jkp : List PV → List Ent → (Res → Option Res) → Option Res
  | [], [], k => g68 0  k
  | _, _, _ => none
noncomputable def s68 : Sig := { own := [], run := Jkp }
theorem Jzd : Jh tau Try.prog 68 s68 := JY Jq Jro Jr Ju1 Ju2 JmX [.ro] 0 [] Jkp (Jzb 0) fun xs es k res hr => by
  unfold Jkp at hr
  split at hr
  · exact ⟨rfl, 0, (e68 0  _).trans hr⟩
  · cases hr
def N27 : Nat := 37
noncomputable def F27 : Fns := JG 68 s68 (JG 69 JuZ (JG 70 JmU (JG 71 JuJ F0)))
theorem Jgt : Jx tau Try.prog F27 := (((JE.add JuK Jy3).add Jko Jrh).add Ju0 Jy9).add Jzd Jzc
noncomputable def Jcl : Code := Qs (Try.f27.body.get!) [1, 1, 0, 1, 0, 0]
def XU : Nm := [(2, .any), (3, .any), (4, .ro)]
def YS : Nm := [(2, .any), (3, .any)]
def JeT : An := (.seq (.seq .leaf (.cond .leaf .leaf)) (.seq (.block none .leaf) .leaf))
noncomputable def Jcm : Code := Qs (Try.f27.body.get!) [1, 1, 1, 1, 0, 1, 0, 0]
def XV : Nm := [(2, .any), (3, .any), (5, .any), (20, .any)]
def YT : Nm := [(2, .any), (5, .any)]
def JeU : An := (.seq .leaf (.seq (.cond .leaf .leaf) (.seq (.block none (.seq .leaf .leaf)) .leaf)))
def JmY (r0 : QZ) (r1 : QZ) : An := (.seq .leaf (.seq .leaf (.seq (.seq .leaf (.block none (.sum XU N27 r0))) (.seq .leaf (.seq (.seq .leaf (.block none (.sum XV N27 r1))) (.seq .leaf .leaf))))))
def VD (f : Nat) (rc : List PV → List PV → List PV → Option Res) (k0 : List PV → List PV → Option Res) (v0 : List PV) (v1 : List PV) (v2 : List PV) : Option Res := bif decide (zi v0.length > 0) then bif decide (64 ≤ v0.length) && true then bif Je IntKind.u32 v2 && decide (v2.length = 8) && (Je IntKind.u8 (List.take 64 v0) && decide ((List.take 64 v0).length = 64)) then bif decide (64 ≤ v0.length) && decide (v0.length ≤ v0.length) && true then rc (List.drop 64 (List.take v0.length v0)) v1 (pu IntKind.u32 (JeL (Jf v2) (Jf (List.take 64 v0)))) else none else none else none else k0 v1 v2
def YU (f : Nat) (k0 : List PV → List PV → Option Res) : Nat → List PV → List PV → List PV → Option Res
  | 0, _, _, _ => none
  | n + 1, v0, v1, v2 => VD f (YU f k0 n) k0 v0 v1 v2
theorem JmZ (f : Nat) (k : Kont) (n : Nat) (v0 : List PV) (v1 : List PV) (v2 : List PV) : Jo tau 0 XU (fun s k => ev tau F27 0 0 Jcl (JeT ) s k) (n + 1) (Jc XU N27 [.ptr 608 [], .ptr 609 [], .ro 5 false false v0] [(608, .box false 37 (PV.ar 37 v1)), (609, .box false 113 (PV.ar 113 v2))]) (Jv tau 0 YS k) = VD f (fun v0 v1 v2 => Jo tau 0 XU (fun s k => ev tau F27 0 0 Jcl (JeT ) s k) n (Jc XU N27 [.ptr 608 [], .ptr 609 [], .ro 5 false false v0] [(608, .box false 37 (PV.ar 37 v1)), (609, .box false 113 (PV.ar 113 v2))]) (Jv tau 0 YS k)) (fun x0 x1 => k (Ex.exit 0) (Jc YS N27 [.ptr 608 [], .ptr 609 []] [(608, .box false 37 (PV.ar 37 x0)), (609, .box false 113 (PV.ar 113 x1))])) v0 v1 v2 := by kernel_rfl
theorem JhU (f : Nat) (k : Kont) : ∀ (n : Nat) (v0 : List PV) (v1 : List PV) (v2 : List PV), Jo tau 0 XU (fun s k => ev tau F27 0 0 Jcl (JeT ) s k) n (Jc XU N27 [.ptr 608 [], .ptr 609 [], .ro 5 false false v0] [(608, .box false 37 (PV.ar 37 v1)), (609, .box false 113 (PV.ar 113 v2))]) (Jv tau 0 YS k) = YU f (fun x0 x1 => k (Ex.exit 0) (Jc YS N27 [.ptr 608 [], .ptr 609 []] [(608, .box false 37 (PV.ar 37 x0)), (609, .box false 113 (PV.ar 113 x1))])) n v0 v1 v2 | 0, _, _, _ => rfl | n + 1, v0, v1, v2 => (JmZ f k n v0 v1 v2).trans (congrArg (fun r => VD f r (fun x0 x1 => k (Ex.exit 0) (Jc YS N27 [.ptr 608 [], .ptr 609 []] [(608, .box false 37 (PV.ar 37 x0)), (609, .box false 113 (PV.ar 113 x1))])) v0 v1 v2) (by funext v0 v1 v2; exact JhU f k n v0 v1 v2))
def Ja8 (f : Nat) : List PV → List (Nat × Ent) → Kont → Option Res
  | [.ptr 608 [], .ptr 609 [],
  PV.ro 5 false false
    v0], [(608, .box false 37 (PV.ar 37 v1)),
  (609,
    Ent.box false 113
      (PV.ar 113
        v2))], k => YU f (fun x0 x1 => k (Ex.exit 0) (Jc YS N27 [.ptr 608 [], .ptr 609 []] [(608, .box false 37 (PV.ar 37 x0)), (609, .box false 113 (PV.ar 113 x1))])) f v0 v1 v2
  | _, _, _ => none
theorem Jrp (f : Nat) : Jg Jcl JeT = [] := by kernel_rfl
theorem Ju3 (f : Nat) : (Item.l Jcl XU N27 (Ja8 f)).Ok tau Try.prog 0 := JJ Jq Jgt Jr (x := JeT) (nm2 := YS) (Jp _ _ (by rw [Jrp f]; intro q hq; cases hq)) fun vs hp k res hr => by
  unfold Ja8 at hr
  split at hr
  · exact ⟨f, 0, (JhU f _ f _ _ _ ).trans hr⟩
  · cases hr
def VE (f : Nat) (rc : Int → List PV → List PV → List PV → Option Res) (k0 : List PV → List PV → Option Res) (v0 : Int) (v1 : List PV) (v2 : List PV) (v3 : List PV) : Option Res := bif decide (v0 < 32) then bif decide (0 ≤ IntKind.i64.wrap (v0.tdiv 4)) && decide (IntKind.i64.wrap (v0.tdiv 4) < zi 8) && true then bif PV.isInt IntKind.u32 (Jk (PV.ar 113 v2) [(IntKind.i64.wrap (v0.tdiv 4)).toNat]) && true then bif decide (0 ≤ IntKind.i64.wrap (24 - IntKind.i64.wrap (8 * v0.tmod 4))) && true then bif decide (0 ≤ v0) && decide (v0 < zi 32) && true then rc (IntKind.i64.wrap (v0 + 1)) v1 v2 (v3.set v0.toNat (.sc (.int .u8 (IntKind.u8.wrap (Jw IntKind.u32 (Jk (PV.ar 113 v2) [(IntKind.i64.wrap (v0.tdiv 4)).toNat]).int (IntKind.i64.wrap (24 - IntKind.i64.wrap (8 * v0.tmod 4)))))))) else none else none else none else none else k0 v1 v3
def YV (f : Nat) (k0 : List PV → List PV → Option Res) : Nat → Int → List PV → List PV → List PV → Option Res
  | 0, _, _, _, _ => none
  | n + 1, v0, v1, v2, v3 => VE f (YV f k0 n) k0 v0 v1 v2 v3
theorem Jm0 (f : Nat) (k : Kont) (n : Nat) (v0 : Int) (v1 : List PV) (v2 : List PV) (v3 : List PV) : Jo tau 0 XV (fun s k => ev tau F27 0 0 Jcm (JeU ) s k) (n + 1) (Jc XV N27 [.ptr 608 [], .ptr 609 [], .ptr 610 [], .sc (.int .i64 v0)] [(608, .box false 37 (PV.ar 37 v1)), (609, .box false 113 (PV.ar 113 v2)), (610, .box false 37 (PV.ar 37 v3))]) (Jv tau 0 YT k) = VE f (fun v0 v1 v2 v3 => Jo tau 0 XV (fun s k => ev tau F27 0 0 Jcm (JeU ) s k) n (Jc XV N27 [.ptr 608 [], .ptr 609 [], .ptr 610 [], .sc (.int .i64 v0)] [(608, .box false 37 (PV.ar 37 v1)), (609, .box false 113 (PV.ar 113 v2)), (610, .box false 37 (PV.ar 37 v3))]) (Jv tau 0 YT k)) (fun x0 x1 => k (Ex.exit 2) (Jc YT N27 [.ptr 608 [], .ptr 609 []] [(608, .box false 37 (PV.ar 37 x0)), (609, .box false 37 (PV.ar 37 x1))])) v0 v1 v2 v3 := by kernel_rfl
theorem JhV (f : Nat) (k : Kont) : ∀ (n : Nat) (v0 : Int) (v1 : List PV) (v2 : List PV) (v3 : List PV), Jo tau 0 XV (fun s k => ev tau F27 0 0 Jcm (JeU ) s k) n (Jc XV N27 [.ptr 608 [], .ptr 609 [], .ptr 610 [], .sc (.int .i64 v0)] [(608, .box false 37 (PV.ar 37 v1)), (609, .box false 113 (PV.ar 113 v2)), (610, .box false 37 (PV.ar 37 v3))]) (Jv tau 0 YT k) = YV f (fun x0 x1 => k (Ex.exit 2) (Jc YT N27 [.ptr 608 [], .ptr 609 []] [(608, .box false 37 (PV.ar 37 x0)), (609, .box false 37 (PV.ar 37 x1))])) n v0 v1 v2 v3 | 0, _, _, _, _ => rfl | n + 1, v0, v1, v2, v3 => (Jm0 f k n v0 v1 v2 v3).trans (congrArg (fun r => VE f r (fun x0 x1 => k (Ex.exit 2) (Jc YT N27 [.ptr 608 [], .ptr 609 []] [(608, .box false 37 (PV.ar 37 x0)), (609, .box false 37 (PV.ar 37 x1))])) v0 v1 v2 v3) (by funext v0 v1 v2 v3; exact JhV f k n v0 v1 v2 v3))
def Ja9 (f : Nat) : List PV → List (Nat × Ent) → Kont → Option Res
  | [.ptr 608 [], .ptr 609 [], .ptr 610 [],
  PV.sc
    (Value.int IntKind.i64
      v0)], [(608, .box false 37 (PV.ar 37 v1)), (609, .box false 113 (PV.ar 113 v2)),
  (610,
    Ent.box false 37
      (PV.ar 37
        v3))], k => YV f (fun x0 x1 => k (Ex.exit 2) (Jc YT N27 [.ptr 608 [], .ptr 609 []] [(608, .box false 37 (PV.ar 37 x0)), (609, .box false 37 (PV.ar 37 x1))])) f v0 v1 v2 v3
  | _, _, _ => none
theorem Jrq (f : Nat) : Jg Jcm JeU = [] := by kernel_rfl
theorem Ju4 (f : Nat) : (Item.l Jcm XV N27 (Ja9 f)).Ok tau Try.prog 0 := JJ Jq Jgt Jr (x := JeU) (nm2 := YT) (Jp _ _ (by rw [Jrq f]; intro q hq; cases hq)) fun vs hp k res hr => by
  unfold Ja9 at hr
  split at hr
  · exact ⟨f, 0, (JhV f _ f _ _ _ _ ).trans hr⟩
  · cases hr
def g27 (f : Nat) (nl : Bool) (fl : Bool) (l : List PV) (k : Res → Option Res) : Option Res := bif l.all (PV.isRo 5) && (decide ((Jl l).length ≤ 140737488355328) && decide (l.length ≤ 140737488355328)) then bif Je IntKind.u8 (Jl l) && (decide ((Jl l).length = (Jl l).length) && decide ((Jl l).length ≤ 140737488355000)) then YU f (fun x0_0 x1_0 => YV f (fun x0_1 x1_1 => k (Res.mk (.ar 37 x1_1) [] [])) f (0) x0_0 x1_0 ([.sc (.int .u8 0), .sc (.int .u8 0), .sc (.int .u8 0), .sc (.int .u8 0), .sc (.int .u8 0), .sc (.int .u8 0), .sc (.int .u8 0), .sc (.int .u8 0), .sc (.int .u8 0), .sc (.int .u8 0), .sc (.int .u8 0), .sc (.int .u8 0), .sc (.int .u8 0), .sc (.int .u8 0), .sc (.int .u8 0), .sc (.int .u8 0), .sc (.int .u8 0), .sc (.int .u8 0), .sc (.int .u8 0), .sc (.int .u8 0), .sc (.int .u8 0), .sc (.int .u8 0), .sc (.int .u8 0), .sc (.int .u8 0), .sc (.int .u8 0), .sc (.int .u8 0), .sc (.int .u8 0), .sc (.int .u8 0), .sc (.int .u8 0), .sc (.int .u8 0), .sc (.int .u8 0), .sc (.int .u8 0)])) f (List.take (Qo (Jf (Jl l))).length (pu IntKind.u8 (Qo (Jf (Jl l))))) ([.sc (.int .u8 0), .sc (.int .u8 0), .sc (.int .u8 0), .sc (.int .u8 0), .sc (.int .u8 0), .sc (.int .u8 0), .sc (.int .u8 0), .sc (.int .u8 0), .sc (.int .u8 0), .sc (.int .u8 0), .sc (.int .u8 0), .sc (.int .u8 0), .sc (.int .u8 0), .sc (.int .u8 0), .sc (.int .u8 0), .sc (.int .u8 0), .sc (.int .u8 0), .sc (.int .u8 0), .sc (.int .u8 0), .sc (.int .u8 0), .sc (.int .u8 0), .sc (.int .u8 0), .sc (.int .u8 0), .sc (.int .u8 0), .sc (.int .u8 0), .sc (.int .u8 0), .sc (.int .u8 0), .sc (.int .u8 0), .sc (.int .u8 0), .sc (.int .u8 0), .sc (.int .u8 0), .sc (.int .u8 0)]) ([.sc (.int .u32 1779033703), .sc (.int .u32 3144134277), .sc (.int .u32 1013904242), .sc (.int .u32 2773480762), .sc (.int .u32 1359893119), .sc (.int .u32 2600822924), .sc (.int .u32 528734635), .sc (.int .u32 1541459225)]) else none else none
theorem e27 (f : Nat) (nl : Bool) (fl : Bool) (l : List PV) (k : Res → Option Res) : JM tau F27 Try.f27 (Try.f27.body.get!) (JmY (Ja8 f) (Ja9 f)) [] 0 [.ro 29 nl fl l] [] k = g27 f nl fl l k := by kernel_rfl
theorem Jze (f : Nat) : Jg (Try.f27.body.get!) (JmY (Ja8 f) (Ja9 f)) = [.l Jcl XU N27 (Ja8 f), .l Jcm XV N27 (Ja9 f)] := by kernel_rfl
theorem Jzf (f : Nat) : ∀ q ∈ Jg (Try.f27.body.get!) (JmY (Ja8 f) (Ja9 f)), q.Ok tau Try.prog 0 := by
  rw [Jze f]; simp only [List.forall_mem_cons, List.not_mem_nil, false_implies, implies_true, and_true]; exact ⟨Ju3 f, Ju4 f⟩
theorem Ju5 : Try.prog.funcs[27]? = some Try.f27 := by kernel_rfl
theorem Ju6 : Try.f27.body = some (Try.f27.body.get!) := by kernel_rfl
theorem Jzg : Enters Try.prog 27 := enters_of Ju5 (by kernel_rfl) Ju6
-- FN sha.Sum
theorem Jcn : iv.length = 8 := rfl
theorem Jpf (P : List Int) (m : Nat) (hP : P.length = 64 * m) (f : Nat) (k0 : List PV → List PV → Option Res) (a : List PV) : ∀ (d i n : Nat), i + d = m → d < n →
    YU f k0 n (pu .u8 (P.drop (64 * i))) a (pu .u32 (QX iv P i)) = k0 a (pu .u32 (QX iv P m))
  | 0, i, n + 1, h, hn => by
      obtain rfl : i = m := by omega
      have hl : (P.drop (64 * i)).length = 0 := by rw [List.length_drop]; omega
      simp only [YU, VD, JI, hl]
      exact JA (by decide)
  | d + 1, i, n + 1, h, hn => by
      have hl : 64 ≤ (P.drop (64 * i)).length := by rw [List.length_drop]; omega
      have hf := Wv iv P Jcn i
      simp only [YU, VD, JI, WW, JV, hf, Qv]
      refine (Ja (by simp; omega)).trans ?_
      refine (Ja (by simp at hl ⊢; omega)).trans ?_
      refine (Ja (by simp at hl ⊢; omega)).trans ?_
      refine (Ja (by simp at hl ⊢; omega)).trans ?_
      rw [List.take_of_length_le (Nat.le_refl _), Jhs, List.drop_drop]
      have := Jpf P m hP f k0 a d (i + 1) n (by omega) (by omega)
      rw [show 64 * i + 64 = 64 * (i + 1) from by omega]
      exact this
theorem Jpg (s : List Int) (hs : s.length = 8) (f : Nat) (k0 : List PV → List PV → Option Res) (a : List PV) (t : List Int) (ht : t.length = 32) : ∀ (d i n : Nat), i + d = 32 → d < n →
    YV f k0 n (i : Int) a (pu .u32 s) (pu .u8 (Qn (Yk s) t i)) = k0 a (pu .u8 (Jje s))
  | 0, i, n + 1, h, hn => by
      obtain rfl : i = 32 := by omega
      simp only [YV, VE]
      refine (JA (by decide)).trans ?_
      have := QK (Yk s) t
      rw [ht] at this; rw [this]; rfl
  | d + 1, i, n + 1, h, hn => by
      have e1 : ((i : Int)).tdiv 4 = ((i / 4 : Nat) : Int) := by rw [Int.tdiv_eq_ediv_of_nonneg (by omega)]; omega
      have e2 : ((i : Int)).tmod 4 = ((i % 4 : Nat) : Int) := by rw [Int.tmod_eq_emod_of_nonneg (by omega)]; omega
      have h1 : IntKind.i64.wrap ((i : Int) + 1) = ((i + 1 : Nat) : Int) := by rw [wrap_i64 (by omega) (by omega)]; omega
      have h2 : IntKind.i64.wrap ((i / 4 : Nat) : Int) = ((i / 4 : Nat) : Int) := wrap_i64 (by omega) (by omega)
      have h3 : IntKind.i64.wrap (8 * ((i % 4 : Nat) : Int)) = 8 * ((i % 4 : Nat) : Int) := wrap_i64 (by omega) (by omega)
      have h4 : IntKind.i64.wrap (24 - 8 * ((i % 4 : Nat) : Int)) = 24 - 8 * ((i % 4 : Nat) : Int) := wrap_i64 (by omega) (by omega)
      have g1 : ((i : Int)).toNat = i := by omega
      have g2 : (((i / 4 : Nat) : Int)).toNat = i / 4 := by omega
      have c0 : decide ((i : Int) < 32) = true := by simp; omega
      have c1 : (decide (0 ≤ ((i / 4 : Nat) : Int)) && decide (((i / 4 : Nat) : Int) < zi 8) && true) = true := by simp; omega
      have c2 : (decide (0 ≤ 24 - 8 * ((i % 4 : Nat) : Int)) && true) = true := by simp; omega
      have c3 : (decide (0 ≤ (i : Int)) && decide ((i : Int) < zi 32) && true) = true := by simp; omega
      simp only [YV, VE, e1, e2, h1, h2, h3, h4, g1, g2, Wr, c0, c1, c2, c3, YN hs (i / 4) (by omega), PV.isInt, PV.int, decide_true, Bool.and_true, cond_true, Wk]
      have := Jpg s hs f k0 a t ht d (i + 1) n (by omega) (by omega)
      rw [← Qk (Yk s) t i (by omega)] at this
      exact this
theorem Jrr (nl fl : Bool) (l : List PV) (k : Res → Option Res) (hl : l.all (PV.isRo 5) = true) (hn : l.length ≤ 140737488355328) (hi : Je .u8 (Jl l) = true) (hs : (Jl l).length ≤ 140737488355000) :
    g27 ((Qo (Jf (Jl l))).length / 64 + 100) nl fl l k = k ⟨.ar 37 (pu .u8 (Jy (Jf (Jl l)))), [], []⟩ := by
  refine (Ja (by simp only [hl, Bool.true_and, Bool.and_eq_true, decide_eq_true_eq]; omega)).trans ?_
  refine (Ja (by simp only [hi, Bool.true_and, Bool.and_eq_true, decide_eq_true_eq, true_and]; exact hs)).trans ?_
  rw [WW, List.take_of_length_le (Nat.le_refl _)]
  generalize hP : Qo (Jf (Jl l)) = P
  have hlen : P.length = 64 * (P.length / 64) := by rw [← hP]; exact GW _
  have h0 : ∀ k0 a, YU (P.length / 64 + 100) k0 (P.length / 64 + 100) (pu .u8 P) a (pu .u32 iv) = k0 a (pu .u32 (QX iv P (P.length / 64))) := fun k0 a => Jpf P (P.length / 64) hlen _ k0 a (P.length / 64) 0 _ (by omega) (by omega)
  have h1 : ∀ k0 a s, s.length = 8 → YV (P.length / 64 + 100) k0 (P.length / 64 + 100) 0 a (pu .u32 s) (pu .u8 (List.replicate 32 0)) = k0 a (pu .u8 (Jje s)) := by
    intro k0 a s hs
    have := Jpg s hs (P.length / 64 + 100) k0 a (List.replicate 32 0) (by simp) 32 0 (P.length / 64 + 100) (by omega) (by omega)
    rw [Qt] at this
    exact this
  refine (h0 _ _).trans ((h1 _ _ _ (Wv iv P Jcn _)).trans ?_)
  rw [Jam, JhI, hP]
def Jgu : List PV → List Ent → (Res → Option Res) → Option Res
  | [.ro 29 nl fl l], [], k => bif (l.all (PV.isRo 5) && decide (l.length ≤ 140737488355328)) && (Je .u8 (Jl l) && decide ((Jl l).length ≤ 140737488355000)) then k ⟨.ar 37 (pu .u8 (Jy (Jf (Jl l)))), [], []⟩ else none
  | _, _, _ => none
def Ju7 : Sig := { own := [], run := Jgu }
theorem Ju8 : Jh tau Try.prog 27 Ju7 := Jf6 Jq Jgt Jr Ju5 Ju6 (fun n => JmY (Ja8 n) (Ja9 n)) [] 0 [] Jgu (fun n => Jzf n) fun xs es k res hr => by
  unfold Jgu at hr
  split at hr
  · rename_i nl fl l
    obtain ⟨hc, hr⟩ := JH hr
    simp only [Bool.and_eq_true, decide_eq_true_eq] at hc
    refine ⟨rfl, (Qo (Jf (Jl l))).length / 64 + 100, 0, (e27 _ _ _ _ _).trans ?_⟩
    rw [Jrr nl fl l k hc.1.1 hc.1.2 hc.2.1 hc.2.2]; exact hr
  · cases hr
noncomputable def Ju9 : Fns := F0
theorem Jm1 : Jx tau Try.prog Ju9 := JE
def JhW : An := (.seq .leaf (.seq (.seq .leaf (.cond (.seq .leaf .leaf) .leaf)) (.seq .leaf .leaf)))
noncomputable def Jva (f : Nat) (s_z : Bool) (s_f : Bool) (s : List PV) (k : Res → Option Res) : Option Res := bif s_z then k (Res.mk (.ro 29 true true []) [] []) else bif Jj (0 + s.length) 24 && true then k (Res.mk (.ow 29 16 [] 0 (0 + s.length) none) [] [.vec false 29 false s]) else none
theorem Jzh (f : Nat) (s_z : Bool) (s_f : Bool) (s : List PV) (k : Res → Option Res) : JM tau Ju9 Try.f136 (Try.f136.body.get!) JhW [] 0 [.ro 29 s_z s_f s] [] k = Jva f s_z s_f s k := by kernel_rfl
theorem Jvb (f : Nat) : Jg (Try.f136.body.get!) JhW = [] := by kernel_rfl
theorem Jvc (f : Nat) : ∀ q ∈ Jg (Try.f136.body.get!) JhW, q.Ok tau Try.prog 0 := by
  rw [Jvb f]; intro q hq; cases hq
theorem Jph : Try.prog.funcs[136]? = some Try.f136 := by kernel_rfl
theorem Jpi : Try.f136.body = some (Try.f136.body.get!) := by kernel_rfl
theorem Jvd : Enters Try.prog 136 := enters_of Jph (by kernel_rfl) Jpi
noncomputable def Jgv : List PV → List Ent → (Res → Option Res) → Option Res
  | [.ro 29 s_z s_f s], [], k => Jva 0 s_z s_f s k
  | _, _, _ => none
noncomputable def Jve : Sig := { own := [], run := Jgv }
theorem Jvf : Jh tau Try.prog 136 Jve := JY Jq Jm1 Jr Jph Jpi JhW [] 0 [] Jgv (Jvc 0) fun xs es k res hr => by
  unfold Jgv at hr
  split at hr
  · exact ⟨rfl, 0, (Jzh 0 _ _ _  _).trans hr⟩
  · cases hr
-- FN slices.overlaps[[]byte]
-- EXT slices.overlaps[[]byte]
noncomputable def JhX : Sig := { own := [true, true], run := Jhu 29 }
theorem Jgw : Vr tau (JjK Try.prog 157) JhX :=
  Jtw (fn := Try.f157) (t := 47) (tR := 4) Jq (by kernel_rfl) (by kernel_rfl) (by kernel_rfl) (by kernel_rfl) (by kernel_rfl) (by kernel_rfl) (by
    have h : tau.und 29 = some (.slice 5) := by kernel_rfl
    rw [h]; intro h; cases h)
noncomputable def Jvg : Fns := JG 157 JhX (F0)
theorem Jm2 : Jx tau Try.prog Jvg := (JE).addV Jgw
def JhY : An := (.seq .leaf (.seq .leaf (.seq .leaf (.seq (.seq .leaf (.cond (.seq .leaf .leaf) .leaf)) (.seq .leaf (.seq (.seq .leaf (.cond (.seq .leaf .leaf) .leaf)) (.seq (.seq .leaf (.cond (.seq .leaf (.seq .leaf (.seq .leaf (.seq .leaf .leaf)))) .leaf)) (.seq .leaf (.seq (.seq .leaf (.cond (.seq .leaf (.seq .leaf (.seq .leaf .leaf))) .leaf)) (.seq .leaf (.seq .leaf (.seq .leaf .leaf))))))))))))
noncomputable def Jrs (f : Nat) (nl : Bool) (L : List PV) (n : Nat) (c : Nat) (x : PV) (k : Res → Option Res) : Option Res := bif decide (n + 1 ≤ (some c).getD (L.length - 0)) && true then bif decide (IntKind.i64.wrap (zi (n + 1) + zi 1) > zi c) then bif decide (0 ≤ IntKind.i64.wrap (IntKind.i64.wrap (zi (n + 1) + zi 1) - 0)) && decide (c - 0 < 0 + (IntKind.i64.wrap (IntKind.i64.wrap (zi (n + 1) + zi 1) - 0)).toNat) && Jj (0 + (IntKind.i64.wrap (IntKind.i64.wrap (zi (n + 1) + zi 1) - 0)).toNat) 24 && true then bif decide (0 + (IntKind.i64.wrap (IntKind.i64.wrap (zi (n + 1) + zi 1) - 0)).toNat ≤ none.getD ((List.replicate (IntKind.i64.wrap (IntKind.i64.wrap (zi (n + 1) + zi 1) - 0)).toNat (PV.ro 5 true true [])).length - 0)) && true then bif decide (1 ≤ 0 + (IntKind.i64.wrap (IntKind.i64.wrap (zi (n + 1) + zi 1) - 0)).toNat) && decide (0 + (IntKind.i64.wrap (IntKind.i64.wrap (zi (n + 1) + zi 1) - 0)).toNat ≤ none.getD ((List.take (0 + (IntKind.i64.wrap (IntKind.i64.wrap (zi (n + 1) + zi 1) - 0)).toNat - 0) [x] ++ List.drop (0 + min 1 (0 + (IntKind.i64.wrap (IntKind.i64.wrap (zi (n + 1) + zi 1) - 0)).toNat - 0)) (List.replicate (IntKind.i64.wrap (IntKind.i64.wrap (zi (n + 1) + zi 1) - 0)).toNat (PV.ro 5 true true []))).length - 0)) && true then bif decide (n + 1 ≤ (some c).getD (L.length - 0)) && true then k (Res.mk (.ro 29 false false (List.take (0 + (IntKind.i64.wrap (IntKind.i64.wrap (zi (n + 1) + zi 1) - 0)).toNat) (List.take 1 (List.take (0 + (IntKind.i64.wrap (IntKind.i64.wrap (zi (n + 1) + zi 1) - 0)).toNat - 0) [x] ++ List.drop (0 + min 1 (0 + (IntKind.i64.wrap (IntKind.i64.wrap (zi (n + 1) + zi 1) - 0)).toNat - 0)) (List.replicate (IntKind.i64.wrap (IntKind.i64.wrap (zi (n + 1) + zi 1) - 0)).toNat (PV.ro 5 true true []))) ++ List.take (0 + (IntKind.i64.wrap (IntKind.i64.wrap (zi (n + 1) + zi 1) - 0)).toNat - 1) (List.take (n + 1 - 0) L) ++ List.drop (1 + min (List.take (n + 1 - 0) L).length (0 + (IntKind.i64.wrap (IntKind.i64.wrap (zi (n + 1) + zi 1) - 0)).toNat - 1)) (List.take (0 + (IntKind.i64.wrap (IntKind.i64.wrap (zi (n + 1) + zi 1) - 0)).toNat - 0) [x] ++ List.drop (0 + min 1 (0 + (IntKind.i64.wrap (IntKind.i64.wrap (zi (n + 1) + zi 1) - 0)).toNat - 0)) (List.replicate (IntKind.i64.wrap (IntKind.i64.wrap (zi (n + 1) + zi 1) - 0)).toNat (PV.ro 5 true true [])))))) [.vec false 29 nl L, .vec false 29 false [x]] []) else none else none else none else none else bif decide (0 ≤ IntKind.i64.wrap (zi (n + 1) + zi 1)) && true && decide ((IntKind.i64.wrap (zi (n + 1) + zi 1)).toNat ≤ (some c).getD (L.length - 0)) && true then bif decide (1 ≤ (IntKind.i64.wrap (zi (n + 1) + zi 1)).toNat - 0) && decide ((IntKind.i64.wrap (zi (n + 1) + zi 1)).toNat - 0 ≤ (some (c - 0)).getD (L.length - 0)) && true then bif Nat.blt 0 ((IntKind.i64.wrap (zi (n + 1) + zi 1)).toNat - 0 - 1) && true then bif decide (1 ≤ (IntKind.i64.wrap (zi (n + 1) + zi 1)).toNat - 0) && decide ((IntKind.i64.wrap (zi (n + 1) + zi 1)).toNat - 0 ≤ (some (c - 0)).getD (L.length - 0)) && true then bif decide ((IntKind.i64.wrap (zi (n + 1) + zi 1)).toNat - 0 ≤ (some (c - 0)).getD (L.length - 0)) && true then bif decide ((IntKind.i64.wrap (zi (n + 1) + zi 1)).toNat - 0 ≤ (some (c - 0)).getD ((List.take 1 L ++ List.take ((IntKind.i64.wrap (zi (n + 1) + zi 1)).toNat - 0 - 1) (List.take ((IntKind.i64.wrap (zi (n + 1) + zi 1)).toNat - 0 - 0) L) ++ List.drop (1 + min (List.take ((IntKind.i64.wrap (zi (n + 1) + zi 1)).toNat - 0 - 0) L).length ((IntKind.i64.wrap (zi (n + 1) + zi 1)).toNat - 0 - 1)) L).length - 0)) && true then k (Res.mk (.ro 29 (Ent.vec false 29 nl (List.take ((IntKind.i64.wrap (zi (n + 1) + zi 1)).toNat - 0 - 0) [x] ++ List.drop (0 + min 1 ((IntKind.i64.wrap (zi (n + 1) + zi 1)).toNat - 0 - 0)) (List.take 1 L ++ List.take ((IntKind.i64.wrap (zi (n + 1) + zi 1)).toNat - 0 - 1) (List.take ((IntKind.i64.wrap (zi (n + 1) + zi 1)).toNat - 0 - 0) L) ++ List.drop (1 + min (List.take ((IntKind.i64.wrap (zi (n + 1) + zi 1)).toNat - 0 - 0) L).length ((IntKind.i64.wrap (zi (n + 1) + zi 1)).toNat - 0 - 1)) L))).nil false (List.take ((IntKind.i64.wrap (zi (n + 1) + zi 1)).toNat - 0) (List.take ((IntKind.i64.wrap (zi (n + 1) + zi 1)).toNat - 0 - 0) [x] ++ List.drop (0 + min 1 ((IntKind.i64.wrap (zi (n + 1) + zi 1)).toNat - 0 - 0)) (List.take 1 L ++ List.take ((IntKind.i64.wrap (zi (n + 1) + zi 1)).toNat - 0 - 1) (List.take ((IntKind.i64.wrap (zi (n + 1) + zi 1)).toNat - 0 - 0) L) ++ List.drop (1 + min (List.take ((IntKind.i64.wrap (zi (n + 1) + zi 1)).toNat - 0 - 0) L).length ((IntKind.i64.wrap (zi (n + 1) + zi 1)).toNat - 0 - 1)) L)))) [.vec true 29 nl (List.take ((IntKind.i64.wrap (zi (n + 1) + zi 1)).toNat - 0 - 0) [x] ++ List.drop (0 + min 1 ((IntKind.i64.wrap (zi (n + 1) + zi 1)).toNat - 0 - 0)) (List.take 1 L ++ List.take ((IntKind.i64.wrap (zi (n + 1) + zi 1)).toNat - 0 - 1) (List.take ((IntKind.i64.wrap (zi (n + 1) + zi 1)).toNat - 0 - 0) L) ++ List.drop (1 + min (List.take ((IntKind.i64.wrap (zi (n + 1) + zi 1)).toNat - 0 - 0) L).length ((IntKind.i64.wrap (zi (n + 1) + zi 1)).toNat - 0 - 1)) L)), .vec false 29 false [x]] []) else none else none else none else none else none else none else none
theorem Jzi (f : Nat) (nl : Bool) (L : List PV) (n : Nat) (c : Nat) (x : PV) (k : Res → Option Res) : JM tau Jvg Try.f140 (Try.f140.body.get!) JhY [.ro] 0 [.ow 29 0 [] 0 (n + 1) (some c), .sc (.int .i64 0), .ow 29 1 [] 0 1 (some 1)] [.vec false 29 nl L, .vec false 29 false [x]] k = Jrs f nl L n c x k := by kernel_rfl
theorem Jvh (f : Nat) : Jg (Try.f140.body.get!) JhY = [] := by kernel_rfl
theorem Jvi (f : Nat) : ∀ q ∈ Jg (Try.f140.body.get!) JhY, q.Ok tau Try.prog 2 := by
  rw [Jvh f]; intro q hq; cases hq
theorem Jpj : Try.prog.funcs[140]? = some Try.f140 := by kernel_rfl
theorem Jpk : Try.f140.body = some (Try.f140.body.get!) := by kernel_rfl
theorem Jvj : Enters Try.prog 140 := enters_of Jpj (by kernel_rfl) Jpk
noncomputable def Jpl : Fns := JG 157 JhX (F0)
theorem Jkq : Jx tau Try.prog Jpl := (JE).addV Jgw
def Jdf : An := (.seq .leaf (.seq .leaf (.seq .leaf (.seq (.seq .leaf (.cond (.seq .leaf .leaf) .leaf)) (.seq .leaf (.seq (.seq .leaf (.cond (.seq .leaf .leaf) .leaf)) (.seq (.seq .leaf (.cond (.seq .leaf (.seq .leaf (.seq .leaf (.seq .leaf .leaf)))) .leaf)) (.seq .leaf (.seq (.seq .leaf (.cond (.seq .leaf (.seq .leaf (.seq .leaf .leaf))) .leaf)) (.seq .leaf (.seq .leaf (.seq .leaf .leaf))))))))))))
noncomputable def Jvk (f : Nat) (x : PV) (k : Res → Option Res) : Option Res := k (Res.mk (.ro 29 false false [x]) [.vec false 29 false [x]] [])
theorem Jvl (f : Nat) (x : PV) (k : Res → Option Res) : JM tau Jpl Try.f140 (Try.f140.body.get!) Jdf [.ro] 0 [.ro 29 true true [], .sc (.int .i64 0), .ow 29 0 [] 0 1 (some 1)] [.vec false 29 false [x]] k = Jvk f x k := by kernel_rfl
theorem Jrt (f : Nat) : Jg (Try.f140.body.get!) Jdf = [] := by kernel_rfl
theorem Jru (f : Nat) : ∀ q ∈ Jg (Try.f140.body.get!) Jdf, q.Ok tau Try.prog 1 := by
  rw [Jrt f]; intro q hq; cases hq
theorem Jrv : Try.prog.funcs[140]? = some Try.f140 := by kernel_rfl
theorem Jrw : Try.f140.body = some (Try.f140.body.get!) := by kernel_rfl
noncomputable def Jpm : Fns := JG 157 JhX (F0)
theorem Jkr : Jx tau Try.prog Jpm := (JE).addV Jgw
def Jdg : An := (.seq .leaf (.seq .leaf (.seq .leaf (.seq (.seq .leaf (.cond (.seq .leaf .leaf) .leaf)) (.seq .leaf (.seq (.seq .leaf (.cond (.seq .leaf .leaf) .leaf)) (.seq (.seq .leaf (.cond (.seq .leaf (.seq .leaf (.seq .leaf (.seq .leaf .leaf)))) .leaf)) (.seq .leaf (.seq (.seq .leaf (.cond (.seq .leaf (.seq .leaf (.seq .leaf .leaf))) .leaf)) (.seq .leaf (.seq .leaf (.seq .leaf .leaf))))))))))))
noncomputable def Jvm (f : Nat) (nl : Bool) (x : PV) (k : Res → Option Res) : Option Res := k (Res.mk (.ro 29 (Ent.vec false 29 (nl && ((Ent.vec false 29 false [x]).nil, List.take 1 (List.drop 0 [x])).snd.isEmpty) [x]).nil false [x]) [.dead, .vec false 29 false [x]] [])
theorem Jvn (f : Nat) (nl : Bool) (x : PV) (k : Res → Option Res) : JM tau Jpm Try.f140 (Try.f140.body.get!) Jdg [.ro] 0 [.ow 29 0 [] 0 0 none, .sc (.int .i64 0), .ow 29 1 [] 0 1 (some 1)] [.vec false 29 nl [], .vec false 29 false [x]] k = Jvm f nl x k := by kernel_rfl
theorem Jrx (f : Nat) : Jg (Try.f140.body.get!) Jdg = [] := by kernel_rfl
theorem Jry (f : Nat) : ∀ q ∈ Jg (Try.f140.body.get!) Jdg, q.Ok tau Try.prog 2 := by
  rw [Jrx f]; intro q hq; cases hq
theorem Jrz : Try.prog.funcs[140]? = some Try.f140 := by kernel_rfl
theorem JrA : Try.f140.body = some (Try.f140.body.get!) := by kernel_rfl
end Go.Proofs.Ytcklhipdldpkhaa.Rx
