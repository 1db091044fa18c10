/- What the functions of this law compute, and their plain laws. Conditions: none. -/
import Derived.Test.YtcklhipdldpkhaaProg
import Derived.Test.YtcklhipdldpkhaaSignChainZ4
namespace Go.Proofs.Ytcklhipdldpkhaa.Rx
open Go
set_option linter.unusedVariables false
set_option linter.unusedSimpArgs false
set_option maxRecDepth 100000
set_option maxHeartbeats 0
def tys : List TypeId := [1, 2, 3, 4, 5, 9, 12, 21, 22, 23, 24, 25, 26, 28, 29, 30, 31, 32, 33, 34, 35, 36, 37, 38, 39, 40, 41, 42, 43, 44, 45, 46, 47, 48, 49, 50, 51, 52, 53, 54, 55, 56, 57, 58, 59, 60, 62, 64, 65, 66, 67, 68, 69, 70, 71, 72, 73, 74, 75, 76, 77, 78, 79, 81, 82, 83, 85, 86, 87, 88, 89, 90, 91, 92, 93, 94, 95, 96, 97, 98, 99, 100, 101, 102, 103, 104, 105, 106, 107, 109, 110, 111, 112, 113, 114, 115, 116, 117, 118, 119, 120, 121, 122, 123, 124, 125, 126, 128, 129, 130, 131, 132, 133, 134, 135, 136, 137, 138, 139, 140, 141, 142, 143, 144, 145, 146, 147, 148, 149, 150, 151, 152, 153, 155, 156, 157, 158, 160, 161, 162, 163, 164, 165, 166, 167, 168, 170, 172, 173, 174, 176, 177, 184, 185, 186, 187, 188, 189, 190, 191, 192, 193, 195, 196, 197, 198, 200, 202, 203, 204, 205, 206, 207, 208, 209, 212, 213]
def JwX : TypeId → Option PV := fun t =>
  bif t == 1 then some (.sc .nilFunc) else
  bif t == 2 then some (.sc (.int .i64 0)) else
  bif t == 3 then some (.sc (.int .i64 0)) else
  bif t == 4 then some (.sc (.bool false)) else
  bif t == 5 then some (.sc (.int .u8 0)) else
  bif t == 9 then some (.sc (.string ByteArray.empty)) else
  bif t == 12 then some (.sc (.int .u64 0)) else
  bif t == 21 then some (.sc (.int .i32 0)) else
  bif t == 22 then some (.ro 106 true true []) else
  bif t == 23 then some (.sc .nilFunc) else
  bif t == 24 then some (.sc .nilFunc) else
  bif t == 25 then some (.ro 93 true true []) else
  bif t == 26 then some (.ro 41 true true []) else
  bif t == 28 then some (.sc .nilFunc) else
  bif t == 29 then some (.ro 5 true true []) else
  bif t == 30 then some (.st 30 (List.replicate 3 (.ro 5 true true []))) else
  bif t == 31 then some (.st 31 (List.replicate 3 (.ro 5 true true []))) else
  bif t == 32 then some (.sc .nilFunc) else
  bif t == 33 then some (.st 33 [.sc (.int .i64 0), .sc (.int .i64 0)]) else
  bif t == 34 then some (.st 34 [.sc (.int .i64 0), .sc (.int .i64 0)]) else
  bif t == 35 then some (.ro 45 true true []) else
  bif t == 36 then some (.ar 36 (List.replicate 32 (.sc (.int .u8 0)))) else
  bif t == 37 then some (.ar 37 (List.replicate 32 (.sc (.int .u8 0)))) else
  bif t == 38 then some (.st 38 [.st 34 [.sc (.int .i64 0), .sc (.int .i64 0)], .sc (.string ByteArray.empty), .ro 45 true true [], .sc (.int .i64 0), .ar 37 (List.replicate 32 (.sc (.int .u8 0)))]) else
  bif t == 39 then some (.st 39 [.st 34 [.sc (.int .i64 0), .sc (.int .i64 0)], .sc (.string ByteArray.empty), .ro 45 true true [], .sc (.int .i64 0), .ar 37 (List.replicate 32 (.sc (.int .u8 0)))]) else
  bif t == 40 then some (.sc .nilFunc) else
  bif t == 41 then some (.st 41 [.st 34 [.sc (.int .i64 0), .sc (.int .i64 0)], .sc (.string ByteArray.empty), .ro 45 true true [], .sc (.int .i64 0), .ar 37 (List.replicate 32 (.sc (.int .u8 0)))]) else
  bif t == 42 then some (.sc .nilFunc) else
  bif t == 43 then some (.sc .nilFunc) else
  bif t == 44 then some (.st 44 [.sc (.int .i64 0), .sc (.int .i64 0)]) else
  bif t == 45 then some (.st 45 [.sc (.int .i64 0), .sc (.int .i64 0)]) else
  bif t == 46 then some (.sc .nilFunc) else
  bif t == 47 then some (.ro 29 true true []) else
  bif t == 48 then some (.sc .nilFunc) else
  bif t == 49 then some (.sc .nilFunc) else
  bif t == 50 then some (.sc .nilFunc) else
  bif t == 51 then some (.sc .nilFunc) else
  bif t == 52 then some (.sc .nilFunc) else
  bif t == 53 then some (.st 53 [.sc (.int .i64 0), .sc (.int .i64 0), .sc (.int .i64 0), .st 34 [.sc (.int .i64 0), .sc (.int .i64 0)], .st 45 [.sc (.int .i64 0), .sc (.int .i64 0)], .sc (.int .i64 0), .sc (.int .i64 0), .st 45 [.sc (.int .i64 0), .sc (.int .i64 0)], .sc (.int .i64 0), .sc (.int .i64 0), .ro 29 true true []]) else
  bif t == 54 then some (.st 54 [.sc (.int .i64 0), .sc (.int .i64 0), .sc (.int .i64 0), .st 34 [.sc (.int .i64 0), .sc (.int .i64 0)], .st 45 [.sc (.int .i64 0), .sc (.int .i64 0)], .sc (.int .i64 0), .sc (.int .i64 0), .st 45 [.sc (.int .i64 0), .sc (.int .i64 0)], .sc (.int .i64 0), .sc (.int .i64 0), .ro 29 true true []]) else
  bif t == 55 then some (.ro 3 true true []) else
  bif t == 56 then some (.sc .nilFunc) else
  bif t == 57 then some (.sc .nilFunc) else
  bif t == 58 then some (.sc .nilFunc) else
  bif t == 59 then some (.sc .nilFunc) else
  bif t == 60 then some (.sc (.int .i64 0)) else
  bif t == 62 then some (.sc .nilFunc) else
  bif t == 64 then some (.sc .nilFunc) else
  bif t == 65 then some (.sc .nilFunc) else
  bif t == 66 then some (.sc .nilFunc) else
  bif t == 67 then some (.sc .nilFunc) else
  bif t == 68 then some (.sc .nilFunc) else
  bif t == 69 then some (.sc .nilFunc) else
  bif t == 70 then some (.ro 99 true true []) else
  bif t == 71 then some (.ro 99 true true []) else
  bif t == 72 then some (.st 72 [.st 45 [.sc (.int .i64 0), .sc (.int .i64 0)], .sc (.int .i64 0), .sc (.int .i64 0), .ar 37 (List.replicate 32 (.sc (.int .u8 0))), .sc (.int .i64 0), .ro 99 true true [], .st 45 [.sc (.int .i64 0), .sc (.int .i64 0)]]) else
  bif t == 73 then some (.st 73 [.st 45 [.sc (.int .i64 0), .sc (.int .i64 0)], .sc (.int .i64 0), .sc (.int .i64 0), .ar 37 (List.replicate 32 (.sc (.int .u8 0))), .sc (.int .i64 0), .ro 99 true true [], .st 45 [.sc (.int .i64 0), .sc (.int .i64 0)]]) else
  bif t == 74 then some (.sc .nilFunc) else
  bif t == 75 then some (.sc .nilFunc) else
  bif t == 76 then some (.st 76 [.ro 5 true true [], .ar 37 (List.replicate 32 (.sc (.int .u8 0)))]) else
  bif t == 77 then some (.st 77 [.ro 5 true true [], .ar 37 (List.replicate 32 (.sc (.int .u8 0)))]) else
  bif t == 78 then some (.sc .nilFunc) else
  bif t == 79 then some (.sc .nilFunc) else
  bif t == 81 then some (.sc .nilFunc) else
  bif t == 82 then some (.sc .nilFunc) else
  bif t == 83 then some (.ro 31 true true []) else
  bif t == 85 then some (.sc .nilFunc) else
  bif t == 86 then some (.sc .nilFunc) else
  bif t == 87 then some (.sc .nilFunc) else
  bif t == 88 then some (.sc .nilFunc) else
  bif t == 89 then some (.sc .nilFunc) else
  bif t == 90 then some (.sc .nilFunc) else
  bif t == 91 then some (.sc .nilFunc) else
  bif t == 92 then some (.st 92 [.st 77 [.ro 5 true true [], .ar 37 (List.replicate 32 (.sc (.int .u8 0)))], .sc (.int .i64 0), .ro 99 true true [], .ar 37 (List.replicate 32 (.sc (.int .u8 0))), .ar 37 (List.replicate 32 (.sc (.int .u8 0)))]) else
  bif t == 93 then some (.st 93 [.st 77 [.ro 5 true true [], .ar 37 (List.replicate 32 (.sc (.int .u8 0)))], .sc (.int .i64 0), .ro 99 true true [], .ar 37 (List.replicate 32 (.sc (.int .u8 0))), .ar 37 (List.replicate 32 (.sc (.int .u8 0)))]) else
  bif t == 94 then some (.sc .nilFunc) else
  bif t == 95 then some (.sc .nilFunc) else
  bif t == 96 then some (.sc .nilFunc) else
  bif t == 97 then some (.sc .nilFunc) else
  bif t == 98 then some (.st 98 [.sc (.int .i64 0), .sc (.int .i64 0), .sc (.string ByteArray.empty)]) else
  bif t == 99 then some (.st 99 [.sc (.int .i64 0), .sc (.int .i64 0), .sc (.string ByteArray.empty)]) else
  bif t == 100 then some (.sc .nilFunc) else
  bif t == 101 then some (.sc .nilFunc) else
  bif t == 102 then some (.sc .nilFunc) else
  bif t == 103 then some (.sc .nilFunc) else
  bif t == 104 then some (.sc .nilFunc) else
  bif t == 105 then some (.st 105 [.sc (.int .i64 0), .sc (.int .i64 0), .sc (.int .i64 0), .ro 3 true true []]) else
  bif t == 106 then some (.st 106 [.sc (.int .i64 0), .sc (.int .i64 0), .sc (.int .i64 0), .ro 3 true true []]) else
  bif t == 107 then some (.sc .nilFunc) else
  bif t == 109 then some (.sc .nilFunc) else
  bif t == 110 then some (.sc .nilFunc) else
  bif t == 111 then some (.sc (.int .u32 0)) else
  bif t == 112 then some (.ar 112 (List.replicate 8 (.sc (.int .u32 0)))) else
  bif t == 113 then some (.ar 113 (List.replicate 8 (.sc (.int .u32 0)))) else
  bif t == 114 then some (.sc .nilFunc) else
  bif t == 115 then some (.sc .nilFunc) else
  bif t == 116 then some (.sc .nilFunc) else
  bif t == 117 then some (.sc .nilFunc) else
  bif t == 118 then some (.ar 118 (List.replicate 64 (.sc (.int .u32 0)))) else
  bif t == 119 then some (.sc .nilFunc) else
  bif t == 120 then some (.sc (.int .u64 0)) else
  bif t == 121 then some (.sc (.int .u64 0)) else
  bif t == 122 then some (.sc .nilFunc) else
  bif t == 123 then some (.sc .nilFunc) else
  bif t == 124 then some (.sc .nilFunc) else
  bif t == 125 then some (.sc (.pointer none)) else
  bif t == 126 then some (.sc .nilFunc) else
  bif t == 128 then some (.sc .nilFunc) else
  bif t == 129 then some (.sc .nilFunc) else
  bif t == 130 then some (.sc .nilFunc) else
  bif t == 131 then some (.sc .nilFunc) else
  bif t == 132 then some (.sc .nilFunc) else
  bif t == 133 then some (.sc (.pointer none)) else
  bif t == 134 then some (.sc .nilFunc) else
  bif t == 135 then some (.sc .nilFunc) else
  bif t == 136 then some (.sc .nilFunc) else
  bif t == 137 then some (.st 137 [.ro 5 true true [], .sc (.int .i64 0), .sc (.int .i64 0)]) else
  bif t == 138 then some (.st 138 [.ro 5 true true [], .sc (.int .i64 0), .sc (.int .i64 0)]) else
  bif t == 139 then some (.sc .nilFunc) else
  bif t == 140 then some (.sc .nilFunc) else
  bif t == 141 then some (.sc .nilFunc) else
  bif t == 142 then some (.sc .nilFunc) else
  bif t == 143 then some (.sc .nilFunc) else
  bif t == 144 then some (.sc .nilFunc) else
  bif t == 145 then some (.ro 148 true true []) else
  bif t == 146 then some (.sc .nilFunc) else
  bif t == 147 then some (.sc (.pointer none)) else
  bif t == 148 then some (.sc (.pointer none)) else
  bif t == 149 then some (.sc .nilFunc) else
  bif t == 150 then some (.sc .nilFunc) else
  bif t == 151 then some (.sc .nilFunc) else
  bif t == 152 then some (.sc .nilFunc) else
  bif t == 153 then some (.sc .nilFunc) else
  bif t == 155 then some (.sc .nilFunc) else
  bif t == 156 then some (.sc .nilFunc) else
  bif t == 157 then some (.sc .nilFunc) else
  bif t == 158 then some (.sc .nilFunc) else
  bif t == 160 then some (.sc .nilFunc) else
  bif t == 161 then some (.sc .nilFunc) else
  bif t == 162 then some (.sc .nilFunc) else
  bif t == 163 then some (.sc (.complex .f64 0 0)) else
  bif t == 164 then some (.sc (.float .f64 0)) else
  bif t == 165 then some (.ro 163 true true []) else
  bif t == 166 then some (.sc .nilFunc) else
  bif t == 167 then some (.sc .nilFunc) else
  bif t == 168 then some (.sc .nilFunc) else
  bif t == 170 then some (.sc .nilFunc) else
  bif t == 172 then some (.sc .nilFunc) else
  bif t == 173 then some (.sc .nilFunc) else
  bif t == 174 then some (.sc .nilFunc) else
  bif t == 176 then some (.sc .nilFunc) else
  bif t == 177 then some (.sc .nilFunc) else
  bif t == 184 then some (.sc .nilFunc) else
  bif t == 185 then some (.st 185 [.ro 5 true true [], .sc (.int .i64 0)]) else
  bif t == 186 then some (.st 186 [.ro 5 true true [], .sc (.int .i64 0)]) else
  bif t == 187 then some (.sc .nilFunc) else
  bif t == 188 then some (.sc .nilFunc) else
  bif t == 189 then some (.ar 189 (List.replicate 64 (.sc (.int .u8 0)))) else
  bif t == 190 then some (.ar 190 (List.replicate 64 (.sc (.int .u8 0)))) else
  bif t == 191 then some (.sc .nilFunc) else
  bif t == 192 then some (.sc .nilFunc) else
  bif t == 193 then some (.sc .nilFunc) else
  bif t == 195 then some (.sc .nilFunc) else
  bif t == 196 then some (.sc .nilFunc) else
  bif t == 197 then some (.sc .nilFunc) else
  bif t == 198 then some (.sc .nilFunc) else
  bif t == 200 then some (.sc .nilFunc) else
  bif t == 202 then some (.sc .nilFunc) else
  bif t == 203 then some (.sc (.pointer none)) else
  bif t == 204 then some (.sc .nilFunc) else
  bif t == 205 then some (.sc .nilFunc) else
  bif t == 206 then some (.sc .nilFunc) else
  bif t == 207 then some (.sc .nilFunc) else
  bif t == 208 then some (.sc .nilFunc) else
  bif t == 209 then some (.sc .nilFunc) else
  bif t == 212 then some (.sc .nilFunc) else
  bif t == 213 then some (.sc .nilFunc) else
  none
noncomputable def tau : Tab := Vj Try.prog tys JwX
theorem Jr : TabOk tau Try.prog := Ji8 (by kernel_rfl)
theorem Js : Try.prog.follows .mixedOrders = true := by kernel_rfl
def F0 : Fns := fun _ => none
theorem JH : Jz tau Try.prog F0 := fun g sg h => by cases h
noncomputable def F21 : Fns := F0
theorem JpH : Jz tau Try.prog F21 := JH
def Jlr : An := (.seq .leaf (.seq .leaf (.seq .leaf .leaf)))
noncomputable def g21 (f : Nat) (b_z : Bool) (b_f : Bool) (b : List PV) (k : Res → Option Res) : Option Res := bif decide (0 ≤ Qm (zi b.length) 60) && true && decide ((Qm (zi b.length) 60).toNat ≤ b.length) && true then bif Jj (2 + (List.take (Qm (zi b.length) 60).toNat b).length) 1 && true then bif Jj (2 + (List.take (Qm (zi b.length) 60).toNat b).length) 1 && true then bif Jj (2 + (List.take (Qm (zi b.length) 60).toNat b).length) 1 && true then k (Res.mk (.st 31 [.ro 5 false false (List.take (2 + (List.take (Qm (zi b.length) 60).toNat b).length) (.sc (.int .u8 107) :: .sc (.int .u8 48) :: id (List.take (Qm (zi b.length) 60).toNat b))), .ro 5 false false (List.take (2 + (List.take (Qm (zi b.length) 60).toNat b).length) (.sc (.int .u8 107) :: .sc (.int .u8 49) :: id (List.take (Qm (zi b.length) 60).toNat b))), .ro 5 false false (List.take (2 + (List.take (Qm (zi b.length) 60).toNat b).length) (.sc (.int .u8 107) :: .sc (.int .u8 50) :: id (List.take (Qm (zi b.length) 60).toNat b)))]) [] []) else none else none else none else none
theorem e21 (f : Nat) (b_z : Bool) (b_f : Bool) (b : List PV) (k : Res → Option Res) : JR tau F21 Try.f21 (Try.f21.body.get!) Jlr [.ro] 0 [.ro 5 b_z b_f b] [] k = g21 f b_z b_f b k := by kernel_rfl
theorem JwY (f : Nat) : Jg (Try.f21.body.get!) Jlr = [] := by kernel_rfl
theorem JwZ (f : Nat) : ∀ q ∈ Jg (Try.f21.body.get!) Jlr, q.Ok tau Try.prog 0 := by
  rw [JwY f]; intro q hq; cases hq
theorem Jsc : Try.prog.funcs[21]? = some Try.f21 := by kernel_rfl
theorem Jsd : Try.f21.body = some (Try.f21.body.get!) := by kernel_rfl
theorem Jse : Enters Try.prog 21 := enters_of Jsc (by kernel_rfl) Jsd
noncomputable def Jjd : List PV → List Ent → (Res → Option Res) → Option Res
  | [.ro 5 b_z b_f b], [], k => g21 0 b_z b_f b k
  | _, _, _ => none
noncomputable def s21 : Sig := { own := [], run := Jjd }
theorem Jw0 : Ji tau Try.prog 21 s21 := J3 Jr JpH Js Jsc Jsd Jlr [.ro] 0 [] Jjd (JwZ 0) fun xs es k res hr => by
  unfold Jjd at hr
  split at hr
  · exact ⟨rfl, 0, (e21 0 _ _ _  _).trans hr⟩
  · cases hr

-- FN law16.within
noncomputable def okW : Int → Bool := hid fun n => decide (0 < n) && decide (n < 1000000000000)
theorem Jje (n : Int) : okW n = (decide (0 < n) && decide (n < 1000000000000)) := by rw [okW, hid_eq]


noncomputable def Jsf : Fns := F0
theorem Jls : Jz tau Try.prog Jsf := JH
def JgQ : An := (.seq .leaf (.seq (.seq .leaf (.cond (.seq .leaf .leaf) .leaf)) (.seq .leaf .leaf)))
noncomputable def Jlt (f : Nat) (s_z : Bool) (s_f : Bool) (s : List PV) (k : Res → Option Res) : Option Res := bif s_z then k (Res.mk (.ro 5 true true []) [] []) else bif Jj (0 + s.length) 1 && true then k (Res.mk (.ro 5 false false (List.take (0 + s.length) s)) [] []) else none
theorem Jw1 (f : Nat) (s_z : Bool) (s_f : Bool) (s : List PV) (k : Res → Option Res) : JR tau Jsf Try.f131 (Try.f131.body.get!) JgQ [.ro] 0 [.ro 5 s_z s_f s] [] k = Jlt f s_z s_f s k := by kernel_rfl
theorem Jsg (f : Nat) : Jg (Try.f131.body.get!) JgQ = [] := by kernel_rfl
theorem Jsh (f : Nat) : ∀ q ∈ Jg (Try.f131.body.get!) JgQ, q.Ok tau Try.prog 0 := by
  rw [Jsg f]; intro q hq; cases hq
theorem Jnx : Try.prog.funcs[131]? = some Try.f131 := by kernel_rfl
theorem Jny : Try.f131.body = some (Try.f131.body.get!) := by kernel_rfl
theorem Jsi : Enters Try.prog 131 := enters_of Jnx (by kernel_rfl) Jny
noncomputable def JfD : List PV → List Ent → (Res → Option Res) → Option Res
  | [.ro 5 s_z s_f s], [], k => Jlt 0 s_z s_f s k
  | _, _, _ => none
noncomputable def Jw2 : Sig := { own := [], run := JfD }
theorem Jsj : Ji tau Try.prog 131 Jw2 := J3 Jr Jls Js Jnx Jny JgQ [.ro] 0 [] JfD (Jsh 0) fun xs es k res hr => by
  unfold JfD at hr
  split at hr
  · exact ⟨rfl, 0, (Jw1 0 _ _ _  _).trans hr⟩
  · cases hr
-- FN slices.Clone[[]byte,byte]
def slB (z : Bool) (l : List PV) : Bool := (!z || l.isEmpty) && Nat.ble l.length 1000000000
theorem QZ {z : Bool} {l : List PV} : slB z l = true ↔ (z = true → l = []) ∧ l.length ≤ 1000000000 := by
  simp only [slB, Bool.and_eq_true, Nat.ble_eq, Bool.or_eq_true, Bool.not_eq_true', List.isEmpty_iff]
  cases z <;> simp
def JcF : List PV → List Ent → (Res → Option Res) → Option Res
  | [.ro 5 z f l], [], k => bif slB z l then k ⟨.ro 5 z z l, [], []⟩ else none
  | _, _, _ => none
def Jnz : Sig := { own := [], run := JcF }
theorem JpI : Ji tau Try.prog 131 Jnz := Jsj.of fun xs es k res hr => by
  change JcF xs es k = some res at hr
  unfold JcF at hr
  split at hr
  · rename_i z f l
    obtain ⟨hc, hr⟩ := JI hr
    obtain ⟨h1, h2⟩ := QZ.1 hc
    show Jlt 0 z f l k = some res
    unfold Jlt
    cases z with
    | true => obtain rfl := h1 rfl; exact hr
    | false =>
      rw [cond_false, Jb (by simp [Jj]; omega)]
      simp only [Nat.zero_add, List.nil_append, List.take_length]
      exact hr
  · cases hr
noncomputable def F76 : Fns := JG 131 Jnz (F0)
theorem JpJ : Jz tau Try.prog F76 := (JH).add JpI Jsi
def Jlu : An := (.seq .leaf (.seq .leaf .leaf))
noncomputable def g76 (f : Nat) (b_z : Bool) (b_f : Bool) (b : List PV) (k : Res → Option Res) : Option Res := bif slB b_z b then k (Res.mk (.ptr 16 []) [] [.box false 186 (PV.st 186 [.ro 5 b_z b_z b, .sc (.int .i64 0)])]) else none
theorem e76 (f : Nat) (b_z : Bool) (b_f : Bool) (b : List PV) (k : Res → Option Res) : JR tau F76 Try.f76 (Try.f76.body.get!) Jlu [.any] 0 [.ro 5 b_z b_f b] [] k = g76 f b_z b_f b k := by kernel_rfl
theorem Jw3 (f : Nat) : Jg (Try.f76.body.get!) Jlu = [] := by kernel_rfl
theorem Jw4 (f : Nat) : ∀ q ∈ Jg (Try.f76.body.get!) Jlu, q.Ok tau Try.prog 0 := by
  rw [Jw3 f]; intro q hq; cases hq
theorem Jsk : Try.prog.funcs[76]? = some Try.f76 := by kernel_rfl
theorem Jsl : Try.f76.body = some (Try.f76.body.get!) := by kernel_rfl
theorem Jsm : Enters Try.prog 76 := enters_of Jsk (by kernel_rfl) Jsl
noncomputable def Jjf : List PV → List Ent → (Res → Option Res) → Option Res
  | [.ro 5 b_z b_f b], [], k => g76 0 b_z b_f b k
  | _, _, _ => none
noncomputable def s76 : Sig := { own := [], run := Jjf }
theorem Jsn : Ji tau Try.prog 76 s76 := J3 Jr JpJ Js Jsk Jsl Jlu [.any] 0 [] Jjf (Jw4 0) fun xs es k res hr => by
  unfold Jjf at hr
  split at hr
  · exact ⟨rfl, 0, (e76 0 _ _ _  _).trans hr⟩
  · cases hr

noncomputable def Jso : Fns := F0
theorem Jlv : Jz tau Try.prog Jso := JH
def JgR : An := (.seq .leaf (.cond .leaf .leaf))
noncomputable def Jsp (f : Nat) (r_b_z : Bool) (r_b_f : Bool) (r_b : List PV) (r_e : Int) (e : Int) (k : Res → Option Res) : Option Res := bif r_e == 0 then k (Res.mk (.tup []) [.box false 186 (PV.st 186 [.ro 5 r_b_z r_b_f r_b, .sc (.int .i64 e)])] []) else k (Res.mk (.tup []) [.box false 186 (PV.st 186 [.ro 5 r_b_z r_b_f r_b, .sc (.int .i64 r_e)])] [])
theorem Jw5 (f : Nat) (r_b_z : Bool) (r_b_f : Bool) (r_b : List PV) (r_e : Int) (e : Int) (k : Res → Option Res) : JR tau Jso Try.f134 (Try.f134.body.get!) JgR [] 0 [.ptr 0 [], .sc (.int .i64 e)] [.box false 186 (.st 186 [.ro 5 r_b_z r_b_f r_b, .sc (.int .i64 r_e)])] k = Jsp f r_b_z r_b_f r_b r_e e k := by kernel_rfl
theorem Jsq (f : Nat) : Jg (Try.f134.body.get!) JgR = [] := by kernel_rfl
theorem Jsr (f : Nat) : ∀ q ∈ Jg (Try.f134.body.get!) JgR, q.Ok tau Try.prog 1 := by
  rw [Jsq f]; intro q hq; cases hq
theorem JnA : Try.prog.funcs[134]? = some Try.f134 := by kernel_rfl
theorem JnB : Try.f134.body = some (Try.f134.body.get!) := by kernel_rfl
theorem JnC : Enters Try.prog 134 := enters_of JnA (by kernel_rfl) JnB
noncomputable def JfE : List PV → List Ent → (Res → Option Res) → Option Res
  | [.ptr 0 [], .sc (.int .i64 e)], [.box false 186 (.st 186 [.ro 5 r_b_z r_b_f r_b, .sc (.int .i64 r_e)])], k => Jsp 0 r_b_z r_b_f r_b r_e e k
  | _, _, _ => none
noncomputable def JpK : Sig := { own := [], run := JfE }
theorem JnD : Ji tau Try.prog 134 JpK := J3 Jr Jlv Js JnA JnB JgR [] 1 [] JfE (Jsr 0) fun xs es k res hr => by
  unfold JfE at hr
  split at hr
  · exact ⟨rfl, 0, (Jw5 0 _ _ _ _ _  _).trans hr⟩
  · cases hr
noncomputable def Jss : Fns := JG 134 JpK (F0)
theorem Jlw : Jz tau Try.prog Jss := (JH).add JnD JnC
def JgS : An := (.seq .leaf (.seq (.seq .leaf (.cond .leaf .leaf)) (.seq (.seq .leaf (.cond (.seq .leaf .leaf) .leaf)) (.seq .leaf (.seq .leaf (.seq .leaf .leaf))))))
noncomputable def Jlx (f : Nat) (r_b_z : Bool) (r_b_f : Bool) (r_b : List PV) (r_e : Int) (n : Int) (k : Res → Option Res) : Option Res := bif decide (n > zi r_b.length) then bif r_e == 0 then k (Res.mk (.ro 5 true true []) [.box false 186 (PV.st 186 [.ro 5 r_b_z r_b_f r_b, .sc (.int .i64 8)])] []) else bif r_e != 0 then k (Res.mk (.ro 5 true true []) [.box false 186 (PV.st 186 [.ro 5 r_b_z r_b_f r_b, .sc (.int .i64 r_e)])] []) else bif decide (0 ≤ n) && true && decide (n.toNat ≤ r_b.length) && true then bif decide (0 ≤ n) && true && decide (n.toNat ≤ r_b.length) && decide (r_b.length ≤ r_b.length) && true then k (Res.mk (.ro 5 r_b_z (r_b_z || r_b_f && false) (List.take n.toNat r_b)) [.box false 186 (PV.st 186 [.ro 5 r_b_z (r_b_z || r_b_f && true) (List.drop n.toNat (List.take r_b.length r_b)), .sc (.int .i64 r_e)])] []) else none else none else bif r_e != 0 then k (Res.mk (.ro 5 true true []) [.box false 186 (PV.st 186 [.ro 5 r_b_z r_b_f r_b, .sc (.int .i64 r_e)])] []) else bif decide (0 ≤ n) && true && decide (n.toNat ≤ r_b.length) && true then bif decide (0 ≤ n) && true && decide (n.toNat ≤ r_b.length) && decide (r_b.length ≤ r_b.length) && true then k (Res.mk (.ro 5 r_b_z (r_b_z || r_b_f && false) (List.take n.toNat r_b)) [.box false 186 (PV.st 186 [.ro 5 r_b_z (r_b_z || r_b_f && true) (List.drop n.toNat (List.take r_b.length r_b)), .sc (.int .i64 r_e)])] []) else none else none
theorem Jw6 (f : Nat) (r_b_z : Bool) (r_b_f : Bool) (r_b : List PV) (r_e : Int) (n : Int) (k : Res → Option Res) : JR tau Jss Try.f156 (Try.f156.body.get!) JgS [.ro] 0 [.ptr 0 [], .sc (.int .i64 n)] [.box false 186 (.st 186 [.ro 5 r_b_z r_b_f r_b, .sc (.int .i64 r_e)])] k = Jlx f r_b_z r_b_f r_b r_e n k := by kernel_rfl
theorem Jst (f : Nat) : Jg (Try.f156.body.get!) JgS = [] := by kernel_rfl
theorem Jsu (f : Nat) : ∀ q ∈ Jg (Try.f156.body.get!) JgS, q.Ok tau Try.prog 1 := by
  rw [Jst f]; intro q hq; cases hq
theorem JnE : Try.prog.funcs[156]? = some Try.f156 := by kernel_rfl
theorem JnF : Try.f156.body = some (Try.f156.body.get!) := by kernel_rfl
theorem JnG : Enters Try.prog 156 := enters_of JnE (by kernel_rfl) JnF
noncomputable def JfF : List PV → List Ent → (Res → Option Res) → Option Res
  | [.ptr 0 [], .sc (.int .i64 n)], [.box false 186 (.st 186 [.ro 5 r_b_z r_b_f r_b, .sc (.int .i64 r_e)])], k => Jlx 0 r_b_z r_b_f r_b r_e n k
  | _, _, _ => none
noncomputable def Jw7 : Sig := { own := [], run := JfF }
theorem Jsv : Ji tau Try.prog 156 Jw7 := J3 Jr Jlw Js JnE JnF JgS [.ro] 1 [] JfF (Jsu 0) fun xs es k res hr => by
  unfold JfF at hr
  split at hr
  · exact ⟨rfl, 0, (Jw6 0 _ _ _ _ _  _).trans hr⟩
  · cases hr
structure RS where
  b : List PV
  e : Int
def byB (l : List PV) : Bool := l.all fun p => p.isInt .u8 && (decide (0 ≤ p.int) && decide (p.int < 256))
def Xc : List Int → Int
  | [] => 0
  | x :: r => x + 256 * Xc r
def Yu (n : Nat) (s : RS) : Bool := s.e == 0 && Nat.ble n s.b.length
def Qb (n : Nat) (s : RS) : RS := bif Yu n s then ⟨s.b.drop n, 0⟩ else ⟨s.b, bif s.e == 0 then 8 else s.e⟩
def Qz (n : Nat) (s : RS) : List PV := bif Yu n s then s.b.take n else []
def Wh (n : Nat) (s : RS) : Int := IntKind.i64.wrap (Xc (Je (Qz n s)))
noncomputable def okS : Nat → RS → Bool := hid Yu
noncomputable def Jd9 : Nat → RS → List PV := hid Qz
theorem JpL (n : Nat) (s : RS) : okS n s = Yu n s := by rw [okS, hid_eq]
theorem JcG (n : Nat) (s : RS) : Jd9 n s = Qz n s := by rw [Jd9, hid_eq]
noncomputable def Ja : Nat → RS → RS := hid Qb
noncomputable def JA : Nat → RS → Int := hid Wh
theorem WK (n : Nat) (s : RS) : Ja n s = Qb n s := by rw [Ja, hid_eq]
theorem WU (n : Nat) (s : RS) : JA n s = Wh n s := by rw [JA, hid_eq]
def Jea (s : RS) : RS := Qb (Wh 2 s).toNat (Qb 2 s)
def Jeb (s : RS) : ByteArray := ⟨(Jl (Qz (Wh 2 s).toNat (Qb 2 s))).toArray⟩
noncomputable def J2 : RS → RS := hid Jea
noncomputable def JQ : RS → ByteArray := hid Jeb
theorem GX (s : RS) : J2 s = Jea s := by rw [J2, hid_eq]
theorem GY (s : RS) : JQ s = Jeb s := by rw [JQ, hid_eq]
theorem Qy {l : List PV} : byB l = true ↔ Jf .u8 l = true ∧ ∀ x ∈ Je l, 0 ≤ x ∧ x < 256 := by
  induction l with
  | nil => simp [byB, Jf, Je]
  | cons p ps ih =>
    have e1 : byB (p :: ps) = ((p.isInt .u8 && (decide (0 ≤ p.int) && decide (p.int < 256))) && byB ps) := rfl
    have e2 : Je (p :: ps) = p.int :: Je ps := rfl
    have e3 : Jf .u8 (p :: ps) = (p.isInt .u8 && Jf .u8 ps) := rfl
    rw [e1, e2, e3]
    simp only [Bool.and_eq_true, decide_eq_true_eq, List.mem_cons, forall_eq_or_imp, ih]
    constructor
    · rintro ⟨⟨h1, h2⟩, h3, h4⟩
      exact ⟨⟨h1, h3⟩, h2, h4⟩
    · rintro ⟨⟨h1, h3⟩, h2, h4⟩
      exact ⟨⟨h1, h2⟩, h3, h4⟩
theorem Jjg {l : List PV} (h : byB l = true) (n : Nat) : byB (l.take n) = true := List.all_eq_true.2 fun p hp => List.all_eq_true.1 h p (List.mem_of_mem_take hp)
theorem Jjh {l : List PV} (h : byB l = true) (n : Nat) : byB (l.drop n) = true := List.all_eq_true.2 fun p hp => List.all_eq_true.1 h p (List.mem_of_mem_drop hp)
theorem Jji {l : List Int} : byB (pu .u8 l) = true ↔ ∀ x ∈ l, 0 ≤ x ∧ x < 256 := by rw [Qy]; simp
theorem Xp {s : RS} (h : byB s.b = true) (n : Nat) : byB (Qb n s).b = true := by
  unfold Qb; cases Yu n s
  · exact h
  · exact Jjh h n
theorem JcH {s : RS} (h : byB s.b = true) (n : Nat) : byB (Qz n s) = true := by
  unfold Qz; cases Yu n s
  · rfl
  · exact Jjg h n
theorem ZJ (n : Nat) (s : RS) : (Qz n s).length ≤ n := by
  unfold Qz; cases Yu n s
  · exact Nat.zero_le _
  · simp; omega
theorem Yv : ∀ (l : List Int), (∀ x ∈ l, 0 ≤ x ∧ x < 256) → 0 ≤ Xc l ∧ Xc l < 256 ^ l.length
  | [], h => by simp [Xc]
  | x :: r, h => by
      have h1 := h x List.mem_cons_self
      have h2 := Yv r fun y hy => h y (List.mem_cons_of_mem _ hy)
      simp only [Xc, List.length_cons, Int.pow_succ]
      generalize (256 : Int) ^ r.length = B at *
      omega
theorem XD {s : RS} (h : byB s.b = true) {n : Nat} (hn : n ≤ 2) : 0 ≤ Wh n s ∧ Wh n s < 65536 := by
  have h1 := Yv (Je (Qz n s)) (Qy.1 (JcH h n)).2
  have h2 : (Je (Qz n s)).length ≤ 2 := by rw [QT]; exact Nat.le_trans (ZJ n s) hn
  have h3 : (256 : Int) ^ (Je (Qz n s)).length ≤ 65536 := by
    generalize (Je (Qz n s)).length = m at *
    match m, h2 with
    | 0, _ => decide
    | 1, _ => decide
    | 2, _ => decide
  unfold Wh
  rw [wrap_i64 (by omega) (by omega)]; omega
structure RT where
  B : List PV
  P : Int
  e : Int
def RT.view (t : RT) : RS := ⟨t.B.drop t.P.toNat, t.e⟩
def okT (t : RT) : Bool := decide (0 ≤ t.P) && (decide (t.P ≤ (t.B.length : Int)) && (byB t.B && Nat.ble t.B.length 1000000000))
def XE (n : Nat) (t : RT) : RT := bif Yu n t.view then ⟨t.B, ((t.P.toNat + n : Nat) : Int), 0⟩ else ⟨t.B, t.P, bif t.e == 0 then 8 else t.e⟩
noncomputable def JgT : Nat → RT → RT := hid XE
noncomputable def JpM : Nat → RT → Int := hid fun n t => Wh n t.view
def Jec (t : RT) : RT := XE (Wh 2 t.view).toNat (XE 2 t)
noncomputable def Jly : RT → RT := hid Jec
noncomputable def Jjj : RT → ByteArray := hid fun t => Jeb t.view
theorem Jed (n : Nat) (t : RT) : JgT n t = XE n t := by rw [JgT, hid_eq]
theorem Jlz (n : Nat) (t : RT) : JpM n t = Wh n t.view := by rw [JpM, hid_eq]
theorem JgU (t : RT) : Jly t = Jec t := by rw [Jly, hid_eq]
theorem Jjk (t : RT) : Jjj t = Jeb t.view := by rw [Jjj, hid_eq]
theorem V0 (n : Nat) (t : RT) : (XE n t).view = Qb n t.view := by
  unfold XE Qb
  cases Yu n t.view with
  | true => simp only [cond_true, RT.view, Int.toNat_natCast, List.drop_drop]
  | false => simp only [cond_false, RT.view]
theorem Jjl (t : RT) : (Jec t).view = Jea t.view := by simp only [Jec, Jea, V0]
@[simp] theorem Jsw (n : Nat) (t : RT) : JpM n t = JA n t.view := by rw [Jlz, WU]
@[simp] theorem JpN (n : Nat) (t : RT) : (JgT n t).view = Ja n t.view := by rw [Jed, WK, V0]
@[simp] theorem Jr3 (t : RT) : (Jly t).view = J2 t.view := by rw [JgU, GX, Jjl]
@[simp] theorem Jr4 (t : RT) : Jjj t = JQ t.view := by rw [Jjk, GY]
theorem Vk {t : RT} (h : okT t = true) (n : Nat) : okT (XE n t) = true := by
  have h' := h
  simp only [okT, Bool.and_eq_true, decide_eq_true_eq, Nat.ble_eq] at h ⊢
  unfold XE
  cases hk : Yu n t.view with
  | true =>
    simp only [cond_true]
    have hn : n ≤ (t.B.drop t.P.toNat).length := by
      simp only [Yu, RT.view, Bool.and_eq_true, Nat.ble_eq] at hk; exact hk.2
    rw [List.length_drop] at hn
    refine ⟨by omega, by omega, h.2.2⟩
  | false => exact h
theorem JlA {t : RT} (h : okT t = true) : okT (Jec t) = true := Vk (Vk h _) _
@[simp] theorem Jr5 {t : RT} (h : okT t = true) (n : Nat) : okT (JgT n t) = true := by rw [Jed]; exact Vk h n
@[simp] theorem Jsx {t : RT} (h : okT t = true) : okT (Jly t) = true := by rw [JgU]; exact JlA h
-- FN (*code.Reader).take
abbrev rdP (z f : Bool) (s : RS) : Ent := .box false 186 (.st 186 [.ro 5 z f s.b, .sc (.int .i64 s.e)])
noncomputable def JcI : List PV → List Ent → (Res → Option Res) → Option Res
  | [.ptr 0 [], .sc (.int .i64 n)], [.box false 186 (.st 186 [.ro 5 z f b, .sc (.int .i64 e)])], k =>
    bif (!z || f) && decide (0 ≤ n) then k ⟨.ro 5 (!okS n.toNat ⟨b, e⟩ || z) (!okS n.toNat ⟨b, e⟩ || z) (Jd9 n.toNat ⟨b, e⟩), [rdP z f (Ja n.toNat ⟨b, e⟩)], []⟩ else none
  | _, _, _ => none
noncomputable def Jjm : Sig := { own := [], run := JcI }
theorem JlB (z f : Bool) (b : List PV) (e n : Int) (hz : (!z || f) = true) (hn : 0 ≤ n) (k : Res → Option Res) :
    Jlx 0 z f b e n k = k ⟨.ro 5 (!okS n.toNat ⟨b, e⟩ || z) (!okS n.toNat ⟨b, e⟩ || z) (Jd9 n.toNat ⟨b, e⟩), [rdP z f (Ja n.toNat ⟨b, e⟩)], []⟩ := by
  rw [JpL, JcG, WK]
  have hzf : (z || f) = f := by cases z <;> cases f <;> simp_all
  have hz2 : (z || f && false) = z := by cases z <;> cases f <;> rfl
  unfold Jlx
  by_cases c1 : n > zi b.length
  · have hk : Nat.ble n.toNat b.length = false := by
      cases h : Nat.ble n.toNat b.length with
      | false => rfl
      | true => rw [Nat.ble_eq] at h; simp only [zi] at c1; omega
    rw [Jb (by simpa using c1)]
    by_cases c2 : e = 0
    · subst c2
      simp only [beq_self_eq_true, cond_true]
      simp [Yu, Qz, Qb, hk]
    · have hb : (e == 0) = false := by simpa using c2
      have hb2 : (e != 0) = true := by simpa using c2
      simp only [hb, hb2, cond_true, cond_false]
      simp [Yu, Qz, Qb, hb]
  · rw [JL (by simpa using c1)]
    by_cases c2 : e = 0
    · subst c2
      have hk : Nat.ble n.toNat b.length = true := by rw [Nat.ble_eq]; simp only [zi] at c1; omega
      have hk' : n.toNat ≤ b.length := by rw [Nat.ble_eq] at hk; exact hk
      have h00 : ((0 : Int) != 0) = false := by decide
      simp only [h00, cond_false]
      rw [Jb (by simp; omega), Jb (by simp; omega)]
      simp [Yu, Qz, Qb, hk, hzf, hz2]
    · have hb : (e == 0) = false := by simpa using c2
      have hb2 : (e != 0) = true := by simpa using c2
      simp only [hb2, cond_true]
      simp [Yu, Qz, Qb, hb]
theorem Jjn : Ji tau Try.prog 156 Jjm := Jsv.of fun xs es k res hr => by
  change JcI xs es k = some res at hr
  unfold JcI at hr
  split at hr
  · obtain ⟨hc, hr⟩ := JI hr
    simp only [Bool.and_eq_true, decide_eq_true_eq] at hc
    exact (JlB _ _ _ _ _ hc.1 hc.2 _).trans hr
  · cases hr
def Jbg : Nat := 27
noncomputable def Jjo : Fns := JG 156 Jjm (F0)
theorem JgV : Jz tau Try.prog Jjo := (JH).add Jjn JnG
noncomputable def V1 : Code := QA (Try.f155.body.get!) [1, 1, 0, 1, 0, 0]
def Wq : Nm := [(5, .any), (10, .any), (11, .any), (12, .any)]
def WV : Nm := [(5, .any)]
def JaB : An := (.seq .leaf (.seq (.cond .leaf .leaf) (.seq (.block none (.seq .leaf .leaf)) .leaf)))
def JgW (r0 : Wg) : An := (.seq .leaf (.seq .leaf (.seq (.seq .leaf (.block none (.sum Wq Jbg r0))) (.seq .leaf .leaf))))
noncomputable def Yw (f : Nat) (rc : Int → Bool → Bool → List PV → Int → Int → Bool → Bool → List PV → Int → Option Res) (k0 : Int → Bool → Bool → List PV → Int → Option Res) (v0 : Int) (v1 : Bool) (v2 : Bool) (v3 : List PV) (v4 : Int) (v5 : Int) (v6 : Bool) (v7 : Bool) (v8 : List PV) (v9 : Int) : Option Res := bif decide (v5 < v4) then bif decide (0 ≤ v5) && decide (v5 < zi v3.length) && PV.isInt IntKind.u8 (v3.getD v5.toNat PV.top) && true then bif decide (0 ≤ IntKind.i64.wrap (8 * v5)) && true then rc (JC BinOp.or IntKind.u64 v0 (Xb IntKind.u64 (IntKind.u64.wrap (v3.getD v5.toNat PV.top).int) (IntKind.i64.wrap (8 * v5)))) v1 v2 v3 v4 (IntKind.i64.wrap (v5 + 1)) v6 v7 v8 v9 else none else none else k0 v0 v6 v7 v8 v9
noncomputable def XF (f : Nat) (k0 : Int → Bool → Bool → List PV → Int → Option Res) : Nat → Int → Bool → Bool → List PV → Int → Int → Bool → Bool → List PV → Int → Option Res
  | 0, _, _, _, _, _, _, _, _, _, _ => none
  | n + 1, v0, v1, v2, v3, v4, v5, v6, v7, v8, v9 => Yw f (XF f k0 n) k0 v0 v1 v2 v3 v4 v5 v6 v7 v8 v9
theorem Jjp (f : Nat) (k : Kont) (n : Nat) (v0 : Int) (v1 : Bool) (v2 : Bool) (v3 : List PV) (v4 : Int) (v5 : Int) (v6 : Bool) (v7 : Bool) (v8 : List PV) (v9 : Int) : Jo tau 1 Wq (fun s k => ev tau Jjo 1 0 V1 (JaB ) s k) (n + 1) (Jd Wq Jbg [.sc (.int .u64 v0), .ro 5 v1 v2 v3, .sc (.int .i64 v4), .sc (.int .i64 v5)] [(0, .box false 186 (PV.st 186 [.ro 5 v6 v7 v8, .sc (.int .i64 v9)]))]) (Jy tau 1 WV k) = Yw f (fun v0 v1 v2 v3 v4 v5 v6 v7 v8 v9 => Jo tau 1 Wq (fun s k => ev tau Jjo 1 0 V1 (JaB ) s k) n (Jd Wq Jbg [.sc (.int .u64 v0), .ro 5 v1 v2 v3, .sc (.int .i64 v4), .sc (.int .i64 v5)] [(0, .box false 186 (PV.st 186 [.ro 5 v6 v7 v8, .sc (.int .i64 v9)]))]) (Jy tau 1 WV k)) (fun x0 x1 x2 x3 x4 => k (Ex.exit 0) (Jd WV Jbg [.sc (.int .u64 x0)] [(0, .box false 186 (PV.st 186 [.ro 5 x1 x2 x3, .sc (.int .i64 x4)]))])) v0 v1 v2 v3 v4 v5 v6 v7 v8 v9 := by kernel_rfl
theorem Jee (f : Nat) (k : Kont) : ∀ (n : Nat) (v0 : Int) (v1 : Bool) (v2 : Bool) (v3 : List PV) (v4 : Int) (v5 : Int) (v6 : Bool) (v7 : Bool) (v8 : List PV) (v9 : Int), Jo tau 1 Wq (fun s k => ev tau Jjo 1 0 V1 (JaB ) s k) n (Jd Wq Jbg [.sc (.int .u64 v0), .ro 5 v1 v2 v3, .sc (.int .i64 v4), .sc (.int .i64 v5)] [(0, .box false 186 (PV.st 186 [.ro 5 v6 v7 v8, .sc (.int .i64 v9)]))]) (Jy tau 1 WV k) = XF f (fun x0 x1 x2 x3 x4 => k (Ex.exit 0) (Jd WV Jbg [.sc (.int .u64 x0)] [(0, .box false 186 (PV.st 186 [.ro 5 x1 x2 x3, .sc (.int .i64 x4)]))])) n v0 v1 v2 v3 v4 v5 v6 v7 v8 v9 | 0, _, _, _, _, _, _, _, _, _, _ => rfl | n + 1, v0, v1, v2, v3, v4, v5, v6, v7, v8, v9 => (Jjp f k n v0 v1 v2 v3 v4 v5 v6 v7 v8 v9).trans (congrArg (fun r => Yw f r (fun x0 x1 x2 x3 x4 => k (Ex.exit 0) (Jd WV Jbg [.sc (.int .u64 x0)] [(0, .box false 186 (PV.st 186 [.ro 5 x1 x2 x3, .sc (.int .i64 x4)]))])) v0 v1 v2 v3 v4 v5 v6 v7 v8 v9) (by funext v0 v1 v2 v3 v4 v5 v6 v7 v8 v9; exact Jee f k n v0 v1 v2 v3 v4 v5 v6 v7 v8 v9))
noncomputable def ZK (f : Nat) : List PV → List (Nat × Ent) → Kont → Option Res
  | [.sc (.int .u64 v0), .ro 5 v1 v2 v3, .sc (.int .i64 v4),
  PV.sc
    (Value.int IntKind.i64
      v5)], [(0,
    Ent.box false 186
      (PV.st 186
        [.ro 5 v6 v7 v8,
          PV.sc
            (Value.int IntKind.i64
              v9)]))], k => XF f (fun x0 x1 x2 x3 x4 => k (Ex.exit
  0) (Jd WV Jbg [.sc (.int .u64 x0)] [(0, .box false 186 (PV.st 186 [.ro 5 x1 x2 x3, .sc (.int .i64 x4)]))])) f v0 v1 v2 v3 v4 v5 v6 v7 v8 v9
  | _, _, _ => none
theorem JlC (f : Nat) : Jg V1 JaB = [] := by kernel_rfl
theorem JpO (f : Nat) : (Item.l V1 Wq Jbg (ZK f)).Ok tau Try.prog 1 := JJ Jr JgV Js (x := JaB) (nm2 := WV) (Jp _ _ (by rw [JlC f]; intro q hq; cases hq)) fun vs hp k res hr => by
  unfold ZK at hr
  split at hr
  · exact ⟨f, 0, (Jee f _ f _ _ _ _ _ _ _ _ _ _ ).trans hr⟩
  · cases hr
noncomputable def JpP (f : Nat) (r_b_z : Bool) (r_b_f : Bool) (r_b : List PV) (r_e : Int) (n : Int) (k : Res → Option Res) : Option Res := bif (!r_b_z || r_b_f) && decide (0 ≤ n) then XF f (fun x0_0 x1_0 x2_0 x3_0 x4_0 => k (Res.mk (.sc (.int .i64 (IntKind.i64.wrap x0_0))) [.box false 186 (PV.st 186 [.ro 5 x1_0 x2_0 x3_0, .sc (.int .i64 x4_0)])] [])) f (0) (!okS n.toNat (RS.mk r_b r_e) || r_b_z) (!okS n.toNat (RS.mk r_b r_e) || r_b_z) (Jd9 n.toNat (RS.mk r_b r_e)) (zi (Jd9 n.toNat (RS.mk r_b r_e)).length) (0) r_b_z r_b_f ((Ja n.toNat (RS.mk r_b r_e)).b) ((Ja n.toNat (RS.mk r_b r_e)).e) else none
theorem Jw8 (f : Nat) (r_b_z : Bool) (r_b_f : Bool) (r_b : List PV) (r_e : Int) (n : Int) (k : Res → Option Res) : JR tau Jjo Try.f155 (Try.f155.body.get!) (JgW (ZK f)) [.ro] 0 [.ptr 0 [], .sc (.int .i64 n)] [.box false 186 (.st 186 [.ro 5 r_b_z r_b_f r_b, .sc (.int .i64 r_e)])] k = JpP f r_b_z r_b_f r_b r_e n k := by kernel_rfl
theorem Jsy (f : Nat) : Jg (Try.f155.body.get!) (JgW (ZK f)) = [.l V1 Wq Jbg (ZK f)] := by kernel_rfl
theorem Jsz (f : Nat) : ∀ q ∈ Jg (Try.f155.body.get!) (JgW (ZK f)), q.Ok tau Try.prog 1 := by
  rw [Jsy f]; simp only [List.forall_mem_cons, List.not_mem_nil, false_implies, implies_true, and_true]; exact JpO f
theorem JnH : Try.prog.funcs[155]? = some Try.f155 := by kernel_rfl
theorem JnI : Try.f155.body = some (Try.f155.body.get!) := by kernel_rfl
theorem Jjq : Enters Try.prog 155 := enters_of JnH (by kernel_rfl) JnI
-- FN (*code.Reader).number
theorem JbL : ∀ (l : List Int) (x : Int), Xc (l ++ [x]) = Xc l + x * 256 ^ l.length
  | [], x => by simp [Xc]
  | y :: r, x => by
      simp only [List.cons_append, Xc, JbL r x, List.length_cons, Int.pow_succ]
      have : x * (256 ^ r.length * 256) = 256 * (x * 256 ^ r.length) := by rw [Int.mul_comm 256, Int.mul_assoc]
      omega
theorem Jjr (i : Nat) : (256 : Int) ^ i = 2 ^ (8 * i) := by rw [Int.pow_mul]; rfl
theorem Jjs {v y : Int} {j : Nat} (hj : j ≤ 64) (hv0 : 0 ≤ v) (hv : v < 2 ^ j) (hy0 : 0 ≤ y) (hy : y * 2 ^ j < 2 ^ 64) : JC .or .u64 v (y * 2 ^ j) = v + y * 2 ^ j := by
  obtain ⟨a, rfl⟩ := Int.eq_ofNat_of_zero_le hv0
  obtain ⟨b, rfl⟩ := Int.eq_ofNat_of_zero_le hy0
  have e1 : ((b : Int)) * 2 ^ j = ((b * 2 ^ j : Nat) : Int) := by rw [Int.natCast_mul, Int.natCast_pow]; rfl
  have e2 : ((2 : Int)) ^ j = ((2 ^ j : Nat) : Int) := by rw [Int.natCast_pow]; rfl
  have e3 : ((2 : Int)) ^ 64 = ((2 ^ 64 : Nat) : Int) := by rw [Int.natCast_pow]; rfl
  rw [e2] at hv
  rw [e1, e3] at hy
  have ha : a < 2 ^ j := Int.ofNat_lt.1 hv
  have hb : b * 2 ^ j < 2 ^ 64 := Int.ofNat_lt.1 hy
  rw [e1]
  have hor : a ||| b * 2 ^ j = a + b * 2 ^ j := by
    have h := Nat.shiftLeft_add_eq_or_of_lt ha b
    rw [Nat.shiftLeft_eq] at h
    rw [Nat.or_comm, ← h, Nat.add_comm]
  have ha2 : a < 2 ^ 64 := Nat.lt_of_lt_of_le ha (Nat.pow_le_pow_right (by omega) hj)
  have hsum : a + b * 2 ^ j < 2 ^ 64 := by rw [← hor]; exact Nat.or_lt_two_pow ha2 hb
  generalize hc : b * 2 ^ j = c at *
  have ht : (BitVec.ofInt 64 (a : Int) ||| BitVec.ofInt 64 (c : Int)).toNat = a + c := by
    rw [BitVec.toNat_or, BitVec.ofInt_natCast, BitVec.ofInt_natCast, BitVec.toNat_ofNat, BitVec.toNat_ofNat, Nat.mod_eq_of_lt ha2, Nat.mod_eq_of_lt hb, hor]
  show IntKind.u64.wrap ((BitVec.ofInt 64 (a : Int) ||| BitVec.ofInt 64 (c : Int)).toNat : Int) = _
  rw [ht, QU]
  have h64 : (2 : Nat) ^ 64 = 18446744073709551616 := by decide
  rw [h64] at hsum
  omega
theorem Jjt {x : Int} (h0 : 0 ≤ x) (h1 : x < 256) {i : Nat} (hi : i < 8) : Xb .u64 (IntKind.u64.wrap x) (8 * (i : Int)) = x * 2 ^ (8 * i) := by
  rw [QU, Int.emod_eq_of_lt h0 (by omega), Xb, QU]
  have : min (8 * (i : Int)).toNat IntKind.u64.bits = 8 * i := by
    have : IntKind.u64.bits = 64 := rfl
    rw [this]; omega
  rw [this]
  have hp : (2 : Int) ^ (8 * i) ≤ 2 ^ 56 := by
    have h : (2 ^ (8 * i) : Nat) ≤ 2 ^ 56 := Nat.pow_le_pow_right (by omega) (by omega)
    have e2 : ((2 : Int)) ^ (8 * i) = ((2 ^ (8 * i) : Nat) : Int) := by rw [Int.natCast_pow]; rfl
    have e3 : ((2 : Int)) ^ 56 = ((2 ^ 56 : Nat) : Int) := by rw [Int.natCast_pow]; rfl
    rw [e2, e3]; exact Int.ofNat_le.2 h
  have hp0 : (0 : Int) ≤ 2 ^ (8 * i) := Int.le_of_lt (by have e2 : ((2 : Int)) ^ (8 * i) = ((2 ^ (8 * i) : Nat) : Int) := by rw [Int.natCast_pow]; rfl
                                                         rw [e2]; exact Int.ofNat_lt.2 (Nat.two_pow_pos _))
  have h56 : (2 : Int) ^ 56 = 72057594037927936 := by decide
  rw [h56] at hp
  have hm : x * 2 ^ (8 * i) ≤ 255 * 2 ^ (8 * i) := Int.mul_le_mul_of_nonneg_right (by omega) hp0
  have hm0 : 0 ≤ x * 2 ^ (8 * i) := Int.mul_nonneg h0 hp0
  exact Int.emod_eq_of_lt hm0 (by omega)
theorem Jju (L : List Int) (hL : ∀ x ∈ L, 0 ≤ x ∧ x < 256) (h8 : L.length ≤ 8) (f : Nat) (k0 : Int → Bool → Bool → List PV → Int → Option Res) (a b c d : Bool) (R : List PV) (e : Int) : ∀ (dd i n : Nat), i + dd = L.length → dd < n →
    XF f k0 n (Xc (L.take i)) a b (pu .u8 L) (L.length : Int) (i : Int) c d R e = k0 (Xc L) c d R e
  | 0, i, n + 1, h, hn => by
      obtain rfl : i = L.length := by omega
      simp only [XF, Yw, List.take_length]
      exact JL (by simp)
  | dd + 1, i, n + 1, h, hn => by
      have g1 : ((i : Int)).toNat = i := by omega
      have h1 : IntKind.i64.wrap ((i : Int) + 1) = ((i + 1 : Nat) : Int) := by rw [wrap_i64 (by omega) (by omega)]; omega
      have h2 : IntKind.i64.wrap (8 * (i : Int)) = 8 * (i : Int) := wrap_i64 (by omega) (by omega)
      have hi : i < L.length := by omega
      have hx := hL (L.getD i 0) (by rw [List.getD_eq_getElem?_getD, List.getElem?_eq_getElem hi]; exact List.getElem_mem hi)
      simp only [XF, Yw, g1, h1, h2]
      rw [JT hi, Qk hi]
      refine (Jb (by simp; omega)).trans ((Jb (by simp [zi]; omega)).trans ((Jb (by simp; omega)).trans ?_))
      have ht : L.take (i + 1) = L.take i ++ [L.getD i 0] := by
        rw [List.take_add_one, List.getD_eq_getElem?_getD, List.getElem?_eq_getElem hi]; rfl
      have hb := Yv (L.take i) fun x hx => hL x (List.mem_of_mem_take hx)
      have hlen : (L.take i).length = i := by rw [List.length_take]; omega
      rw [hlen, Jjr] at hb
      have hs := Jjt hx.1 hx.2 (i := i) (by omega)
      have hlt : L.getD i 0 * 2 ^ (8 * i) < 2 ^ 64 := by
        have hp : (2 : Int) ^ (8 * i) ≤ 2 ^ 56 := by
          have h : (2 ^ (8 * i) : Nat) ≤ 2 ^ 56 := Nat.pow_le_pow_right (by omega) (by omega)
          have e2 : ((2 : Int)) ^ (8 * i) = ((2 ^ (8 * i) : Nat) : Int) := by rw [Int.natCast_pow]; rfl
          have e3 : ((2 : Int)) ^ 56 = ((2 ^ 56 : Nat) : Int) := by rw [Int.natCast_pow]; rfl
          rw [e2, e3]; exact Int.ofNat_le.2 h
        have hp0 : (0 : Int) ≤ 2 ^ (8 * i) := by omega
        have h56 : (2 : Int) ^ 56 = 72057594037927936 := by decide
        have h64 : (2 : Int) ^ 64 = 18446744073709551616 := by decide
        rw [h56] at hp; rw [h64]
        have hm : L.getD i 0 * 2 ^ (8 * i) ≤ 255 * 2 ^ (8 * i) := Int.mul_le_mul_of_nonneg_right (by omega) hp0
        omega
      rw [hs, Jjs (by omega) hb.1 hb.2 hx.1 hlt]
      have hn1 : Xc (L.take i) + L.getD i 0 * 2 ^ (8 * i) = Xc (L.take (i + 1)) := by
        rw [ht, JbL, hlen, Jjr]
      rw [hn1]
      exact Jju L hL h8 f k0 a b c d R e dd (i + 1) n (by omega) (by omega)
noncomputable def JcJ : List PV → List Ent → (Res → Option Res) → Option Res
  | [.ptr 0 [], .sc (.int .i64 n)], [.box false 186 (.st 186 [.ro 5 z f b, .sc (.int .i64 e)])], k =>
    bif (!z || f) && (decide (0 ≤ n) && decide (n ≤ 8)) && byB b then k ⟨.sc (.int .i64 (JA n.toNat ⟨b, e⟩)), [rdP z f (Ja n.toNat ⟨b, e⟩)], []⟩ else none
  | _, _, _ => none
noncomputable def JgX : Sig := { own := [], run := JcJ }
theorem JlD (z f : Bool) (b : List PV) (e n : Int) (hz : (!z || f) = true) (hn : 0 ≤ n) (hn8 : n ≤ 8) (hb : byB b = true) (k : Res → Option Res) :
    JpP 20 z f b e n k = k ⟨.sc (.int .i64 (JA n.toNat ⟨b, e⟩)), [rdP z f (Ja n.toNat ⟨b, e⟩)], []⟩ := by
  unfold JpP
  rw [Jb (by rw [hz]; simpa using hn), WU, JcG]
  have ho : byB (Qz n.toNat ⟨b, e⟩) = true := JcH hb _
  have hoi := Qy.1 ho
  have hl : (Je (Qz n.toNat ⟨b, e⟩)).length ≤ 8 := by rw [QT]; exact Nat.le_trans (ZJ _ _) (by omega)
  have hL := Jju (Je (Qz n.toNat ⟨b, e⟩)) hoi.2 hl 20 (fun x0_0 x1_0 x2_0 x3_0 x4_0 => k (Res.mk (.sc (.int .i64 (IntKind.i64.wrap x0_0))) [.box false 186 (.st 186 [.ro 5 x1_0 x2_0 x3_0, .sc (.int .i64 x4_0)])] [])) (!okS n.toNat ⟨b, e⟩ || z) (!okS n.toNat ⟨b, e⟩ || z) z f (Ja n.toNat ⟨b, e⟩).b (Ja n.toNat ⟨b, e⟩).e (Je (Qz n.toNat ⟨b, e⟩)).length 0 20 (by omega) (by omega)
  rw [← Qa hoi.1, QT] at hL
  simp only [List.take_zero, Xc] at hL
  exact hL
theorem JfG : Ji tau Try.prog 155 JgX := Ji.mk' fun xs es k res hl hr => by
  change JcJ xs es k = some res at hr
  unfold JcJ at hr
  split at hr
  · rename_i n z f b e
    obtain ⟨hc, hr⟩ := JI hr
    simp only [Bool.and_eq_true, decide_eq_true_eq] at hc
    exact Qo Jr JgV Js JnH JnI (JgW (ZK 20)) [.ro] 1 0 (Jsz 20) hl rfl ((Jw8 20 z f b e n k).trans ((JlD z f b e n hc.1.1 hc.1.2.1 hc.1.2.2 hc.2 k).trans hr))
  · cases hr
noncomputable def JsA : Fns := JG 155 JgX (F0)
theorem JlE : Jz tau Try.prog JsA := (JH).add JfG Jjq
def JgY : An := (.seq .leaf (.seq .leaf .leaf))
noncomputable def JsB (f : Nat) (r_b_z : Bool) (r_b_f : Bool) (r_b : List PV) (r_e : Int) (k : Res → Option Res) : Option Res := bif (!r_b_z || r_b_f) && true && byB r_b then k (Res.mk (.sc (.int .i64 (JA 8 (RS.mk r_b r_e)))) [.box false 186 (PV.st 186 [.ro 5 r_b_z r_b_f (Ja 8 (RS.mk r_b r_e)).b, .sc (.int .i64 (Ja 8 (RS.mk r_b r_e)).e)])] []) else none
theorem Jw9 (f : Nat) (r_b_z : Bool) (r_b_f : Bool) (r_b : List PV) (r_e : Int) (k : Res → Option Res) : JR tau JsA Try.f132 (Try.f132.body.get!) JgY [.ro] 0 [.ptr 0 []] [.box false 186 (.st 186 [.ro 5 r_b_z r_b_f r_b, .sc (.int .i64 r_e)])] k = JsB f r_b_z r_b_f r_b r_e k := by kernel_rfl
theorem JsC (f : Nat) : Jg (Try.f132.body.get!) JgY = [] := by kernel_rfl
theorem JsD (f : Nat) : ∀ q ∈ Jg (Try.f132.body.get!) JgY, q.Ok tau Try.prog 1 := by
  rw [JsC f]; intro q hq; cases hq
theorem JnJ : Try.prog.funcs[132]? = some Try.f132 := by kernel_rfl
theorem JnK : Try.f132.body = some (Try.f132.body.get!) := by kernel_rfl
theorem JnL : Enters Try.prog 132 := enters_of JnJ (by kernel_rfl) JnK
noncomputable def JfH : List PV → List Ent → (Res → Option Res) → Option Res
  | [.ptr 0 []], [.box false 186 (.st 186 [.ro 5 r_b_z r_b_f r_b, .sc (.int .i64 r_e)])], k => JsB 0 r_b_z r_b_f r_b r_e k
  | _, _, _ => none
noncomputable def JpQ : Sig := { own := [], run := JfH }
theorem JnM : Ji tau Try.prog 132 JpQ := J3 Jr JlE Js JnJ JnK JgY [.ro] 1 [] JfH (JsD 0) fun xs es k res hr => by
  unfold JfH at hr
  split at hr
  · exact ⟨rfl, 0, (Jw9 0 _ _ _ _  _).trans hr⟩
  · cases hr
noncomputable def JsE : Fns := JG 155 JgX (F0)
theorem JlF : Jz tau Try.prog JsE := (JH).add JfG Jjq
def JgZ : An := (.seq .leaf (.seq .leaf .leaf))
noncomputable def JsF (f : Nat) (r_b_z : Bool) (r_b_f : Bool) (r_b : List PV) (r_e : Int) (k : Res → Option Res) : Option Res := bif (!r_b_z || r_b_f) && true && byB r_b then k (Res.mk (.sc (.int .i64 (JA 1 (RS.mk r_b r_e)))) [.box false 186 (PV.st 186 [.ro 5 r_b_z r_b_f (Ja 1 (RS.mk r_b r_e)).b, .sc (.int .i64 (Ja 1 (RS.mk r_b r_e)).e)])] []) else none
theorem Jxa (f : Nat) (r_b_z : Bool) (r_b_f : Bool) (r_b : List PV) (r_e : Int) (k : Res → Option Res) : JR tau JsE Try.f133 (Try.f133.body.get!) JgZ [.ro] 0 [.ptr 0 []] [.box false 186 (.st 186 [.ro 5 r_b_z r_b_f r_b, .sc (.int .i64 r_e)])] k = JsF f r_b_z r_b_f r_b r_e k := by kernel_rfl
theorem JsG (f : Nat) : Jg (Try.f133.body.get!) JgZ = [] := by kernel_rfl
theorem JsH (f : Nat) : ∀ q ∈ Jg (Try.f133.body.get!) JgZ, q.Ok tau Try.prog 1 := by
  rw [JsG f]; intro q hq; cases hq
theorem JnN : Try.prog.funcs[133]? = some Try.f133 := by kernel_rfl
theorem JnO : Try.f133.body = some (Try.f133.body.get!) := by kernel_rfl
theorem JnP : Enters Try.prog 133 := enters_of JnN (by kernel_rfl) JnO
noncomputable def JfI : List PV → List Ent → (Res → Option Res) → Option Res
  | [.ptr 0 []], [.box false 186 (.st 186 [.ro 5 r_b_z r_b_f r_b, .sc (.int .i64 r_e)])], k => JsF 0 r_b_z r_b_f r_b r_e k
  | _, _, _ => none
noncomputable def JpR : Sig := { own := [], run := JfI }
theorem JnQ : Ji tau Try.prog 133 JpR := J3 Jr JlF Js JnN JnO JgZ [.ro] 1 [] JfI (JsH 0) fun xs es k res hr => by
  unfold JfI at hr
  split at hr
  · exact ⟨rfl, 0, (Jxa 0 _ _ _ _  _).trans hr⟩
  · cases hr
noncomputable def JsI : Fns := JG 156 Jjm (JG 155 JgX (F0))
theorem JlG : Jz tau Try.prog JsI := ((JH).add JfG Jjq).add Jjn JnG
def Jg0 : An := (.seq .leaf (.seq .leaf (.seq .leaf .leaf)))
noncomputable def JlH (f : Nat) (r_b_z : Bool) (r_b_f : Bool) (r_b : List PV) (r_e : Int) (k : Res → Option Res) : Option Res := bif (!r_b_z || r_b_f) && true && byB r_b then bif (!r_b_z || r_b_f) && decide (0 ≤ JA 2 (RS.mk r_b r_e)) then bif Jf IntKind.u8 (Jd9 (JA 2 (RS.mk r_b r_e)).toNat (Ja 2 (RS.mk r_b r_e))) && true then k (Res.mk (.sc (.string (ByteArray.mk (Array.mk (Jl (!okS (JA 2 (RS.mk r_b r_e)).toNat (RS.mk (Ja 2 (RS.mk r_b r_e)).b (Ja 2 (RS.mk r_b r_e)).e) || r_b_z, Jd9 (JA 2 (RS.mk r_b r_e)).toNat (Ja 2 (RS.mk r_b r_e))).snd))))) [.box false 186 (PV.st 186 [.ro 5 r_b_z r_b_f (Ja (JA 2 (RS.mk r_b r_e)).toNat (Ja 2 (RS.mk r_b r_e))).b, .sc (.int .i64 (Ja (JA 2 (RS.mk r_b r_e)).toNat (Ja 2 (RS.mk r_b r_e))).e)])] []) else none else none else none
theorem Jxb (f : Nat) (r_b_z : Bool) (r_b_f : Bool) (r_b : List PV) (r_e : Int) (k : Res → Option Res) : JR tau JsI Try.f135 (Try.f135.body.get!) Jg0 [.ro] 0 [.ptr 0 []] [.box false 186 (.st 186 [.ro 5 r_b_z r_b_f r_b, .sc (.int .i64 r_e)])] k = JlH f r_b_z r_b_f r_b r_e k := by kernel_rfl
theorem JsJ (f : Nat) : Jg (Try.f135.body.get!) Jg0 = [] := by kernel_rfl
theorem JsK (f : Nat) : ∀ q ∈ Jg (Try.f135.body.get!) Jg0, q.Ok tau Try.prog 1 := by
  rw [JsJ f]; intro q hq; cases hq
theorem JnR : Try.prog.funcs[135]? = some Try.f135 := by kernel_rfl
theorem JnS : Try.f135.body = some (Try.f135.body.get!) := by kernel_rfl
theorem JnT : Enters Try.prog 135 := enters_of JnR (by kernel_rfl) JnS
noncomputable def JfJ : List PV → List Ent → (Res → Option Res) → Option Res
  | [.ptr 0 []], [.box false 186 (.st 186 [.ro 5 r_b_z r_b_f r_b, .sc (.int .i64 r_e)])], k => JlH 0 r_b_z r_b_f r_b r_e k
  | _, _, _ => none
noncomputable def Jxc : Sig := { own := [], run := JfJ }
theorem JsL : Ji tau Try.prog 135 Jxc := J3 Jr JlG Js JnR JnS Jg0 [.ro] 1 [] JfJ (JsK 0) fun xs es k res hr => by
  unfold JfJ at hr
  split at hr
  · exact ⟨rfl, 0, (Jxb 0 _ _ _ _  _).trans hr⟩
  · cases hr
-- FN (*code.Reader).Text
noncomputable def JcK : List PV → List Ent → (Res → Option Res) → Option Res
  | [.ptr 0 []], [.box false 186 (.st 186 [.ro 5 z f b, .sc (.int .i64 e)])], k =>
    bif (!z || f) && byB b then k ⟨.sc (.string (JQ ⟨b, e⟩)), [rdP z f (J2 ⟨b, e⟩)], []⟩ else none
  | _, _, _ => none
noncomputable def Jjv : Sig := { own := [], run := JcK }
theorem Jjw : Ji tau Try.prog 135 Jjv := JsL.of fun xs es k res hr => by
  change JcK xs es k = some res at hr
  unfold JcK at hr
  split at hr
  · rename_i z f b e
    obtain ⟨hc, hr⟩ := JI hr
    simp only [Bool.and_eq_true] at hc
    show JlH 0 z f b e k = some res
    have hn := (XD (s := ⟨b, e⟩) hc.2 (n := 2) (by omega)).1
    have ho := (Qy.1 (JcH (s := Qb 2 ⟨b, e⟩) (Xp (s := ⟨b, e⟩) hc.2 2) (Wh 2 ⟨b, e⟩).toNat)).1
    unfold JlH
    simp only [WU, WK, JcG]
    rw [Jb (by rw [hc.1, hc.2]; rfl), Jb (by rw [hc.1]; simpa using hn), Jb (by rw [ho]; rfl)]
    rw [GY, GX] at hr
    exact hr
  · cases hr




-- FN (*ref1.Reader).take



-- FN (*ref1.Reader).Int | (*ref1.Reader).Byte | (*ref1.Reader).Text

noncomputable def JsM : Fns := F0
theorem JlI : Jz tau Try.prog JsM := JH
def Jg1 : An := (.seq .leaf (.seq .leaf (.seq .leaf .leaf)))
noncomputable def JsN (f : Nat) (x : Int) (k1 : Int) (k : Res → Option Res) : Option Res := bif decide (0 ≤ IntKind.u64.wrap (32 - JC BinOp.and IntKind.u64 (IntKind.u64.wrap k1) 31)) && true then k (Res.mk (.sc (.int .u32 (JC BinOp.or IntKind.u32 (Xb IntKind.u32 x (JC BinOp.and IntKind.u64 (IntKind.u64.wrap k1) 31)) (Jx IntKind.u32 x (IntKind.u64.wrap (32 - JC BinOp.and IntKind.u64 (IntKind.u64.wrap k1) 31)))))) [] []) else none
theorem Jxd (f : Nat) (x : Int) (k1 : Int) (k : Res → Option Res) : JR tau JsM Try.f149 (Try.f149.body.get!) Jg1 [.ro] 0 [.sc (.int .u32 x), .sc (.int .i64 k1)] [] k = JsN f x k1 k := by kernel_rfl
theorem JsO (f : Nat) : Jg (Try.f149.body.get!) Jg1 = [] := by kernel_rfl
theorem JsP (f : Nat) : ∀ q ∈ Jg (Try.f149.body.get!) Jg1, q.Ok tau Try.prog 0 := by
  rw [JsO f]; intro q hq; cases hq
theorem JnU : Try.prog.funcs[149]? = some Try.f149 := by kernel_rfl
theorem JnV : Try.f149.body = some (Try.f149.body.get!) := by kernel_rfl
theorem JsQ : Enters Try.prog 149 := enters_of JnU (by kernel_rfl) JnV
noncomputable def JfK : List PV → List Ent → (Res → Option Res) → Option Res
  | [.sc (.int .u32 x), .sc (.int .i64 k1)], [], k => JsN 0 x k1 k
  | _, _, _ => none
noncomputable def JsR : Sig := { own := [], run := JfK }
theorem JsS : Ji tau Try.prog 149 JsR := J3 Jr JlI Js JnU JnV Jg1 [.ro] 0 [] JfK (JsP 0) fun xs es k res hr => by
  unfold JfK at hr
  split at hr
  · exact ⟨rfl, 0, (Jxd 0 _ _  _).trans hr⟩
  · cases hr
noncomputable def JsT : Fns := JG 149 JsR (F0)
theorem JlJ : Jz tau Try.prog JsT := (JH).add JsS JsQ
def Jg2 : An := (.seq .leaf (.seq .leaf .leaf))
noncomputable def JlK (f : Nat) (x : Int) (n : Int) (k : Res → Option Res) : Option Res := bif decide (0 ≤ IntKind.u64.wrap (32 - JC BinOp.and IntKind.u64 (IntKind.u64.wrap (IntKind.i64.wrap (0 - n))) 31)) && true then k (Res.mk (.sc (.int .u32 (JC BinOp.or IntKind.u32 (Xb IntKind.u32 x (JC BinOp.and IntKind.u64 (IntKind.u64.wrap (IntKind.i64.wrap (0 - n))) 31)) (Jx IntKind.u32 x (IntKind.u64.wrap (32 - JC BinOp.and IntKind.u64 (IntKind.u64.wrap (IntKind.i64.wrap (0 - n))) 31)))))) [] []) else none
theorem Jxe (f : Nat) (x : Int) (n : Int) (k : Res → Option Res) : JR tau JsT Try.f124 (Try.f124.body.get!) Jg2 [.ro] 0 [.sc (.int .u32 x), .sc (.int .i64 n)] [] k = JlK f x n k := by kernel_rfl
theorem JsU (f : Nat) : Jg (Try.f124.body.get!) Jg2 = [] := by kernel_rfl
theorem JsV (f : Nat) : ∀ q ∈ Jg (Try.f124.body.get!) Jg2, q.Ok tau Try.prog 0 := by
  rw [JsU f]; intro q hq; cases hq
theorem JnW : Try.prog.funcs[124]? = some Try.f124 := by kernel_rfl
theorem JnX : Try.f124.body = some (Try.f124.body.get!) := by kernel_rfl
theorem JnY : Enters Try.prog 124 := enters_of JnW (by kernel_rfl) JnX
noncomputable def JfL : List PV → List Ent → (Res → Option Res) → Option Res
  | [.sc (.int .u32 x), .sc (.int .i64 n)], [], k => JlK 0 x n k
  | _, _, _ => none
noncomputable def Jxf : Sig := { own := [], run := JfL }
theorem JsW : Ji tau Try.prog 124 Jxf := J3 Jr JlJ Js JnW JnX Jg2 [.ro] 0 [] JfL (JsV 0) fun xs es k res hr => by
  unfold JfL at hr
  split at hr
  · exact ⟨rfl, 0, (Jxe 0 _ _  _).trans hr⟩
  · cases hr
noncomputable def F73 : Fns := F0
theorem JpS : Jz tau Try.prog F73 := JH
def JlL : An := (.seq .leaf (.seq .leaf .leaf))
noncomputable def g73 (f : Nat) (x : Int) (n : Int) (k : Res → Option Res) : Option Res := bif decide (0 ≤ n) && true then bif decide (0 ≤ IntKind.u64.wrap (32 - n)) && true then k (Res.mk (.sc (.int .u32 (JC BinOp.or IntKind.u32 (Jx IntKind.u32 x n) (Xb IntKind.u32 x (IntKind.u64.wrap (32 - n)))))) [] []) else none else none
theorem e73 (f : Nat) (x : Int) (n : Int) (k : Res → Option Res) : JR tau F73 Try.f73 (Try.f73.body.get!) JlL [.ro] 0 [.sc (.int .u32 x), .sc (.int .u64 n)] [] k = g73 f x n k := by kernel_rfl
theorem Jxg (f : Nat) : Jg (Try.f73.body.get!) JlL = [] := by kernel_rfl
theorem Jxh (f : Nat) : ∀ q ∈ Jg (Try.f73.body.get!) JlL, q.Ok tau Try.prog 0 := by
  rw [Jxg f]; intro q hq; cases hq
theorem JsX : Try.prog.funcs[73]? = some Try.f73 := by kernel_rfl
theorem JsY : Try.f73.body = some (Try.f73.body.get!) := by kernel_rfl
theorem Jxi : Enters Try.prog 73 := enters_of JsX (by kernel_rfl) JsY
noncomputable def Jjx : List PV → List Ent → (Res → Option Res) → Option Res
  | [.sc (.int .u32 x), .sc (.int .u64 n)], [], k => g73 0 x n k
  | _, _, _ => none
noncomputable def s73 : Sig := { own := [], run := Jjx }
theorem Jxj : Ji tau Try.prog 73 s73 := J3 Jr JpS Js JsX JsY JlL [.ro] 0 [] Jjx (Jxh 0) fun xs es k res hr => by
  unfold Jjx at hr
  split at hr
  · exact ⟨rfl, 0, (e73 0 _ _  _).trans hr⟩
  · cases hr
-- FN sha.right | ref2.rot
def rr (x n : Int) : Int := JC .or .u32 (Xb .u32 x (32 - n)) (Jx .u32 x n)
theorem JcL (x y : Int) : JC .or .u32 x y = JC .or .u32 y x := by
  simp only [JC]; rw [BitVec.or_comm]
theorem Jjy {P : Int → Prop} (h : ∀ m : Nat, m < 31 → P ((m : Int) + 1)) (n : Int) (h1 : 1 ≤ n) (h2 : n ≤ 31) : P n := by
  have := h (n - 1).toNat (by omega)
  have he : (((n - 1).toNat : Nat) : Int) + 1 = n := by omega
  rwa [he] at this
def JcM : List PV → List Ent → (Res → Option Res) → Option Res
  | [.sc (.int .u32 x), .sc (.int .i64 n)], [], k => bif decide (1 ≤ n) && decide (n ≤ 31) then k ⟨.sc (.int .u32 (rr x n)), [], []⟩ else none
  | _, _, _ => none
def Jjz : Sig := { own := [], run := JcM }
theorem JfM (x : Int) (k : Res → Option Res) (n : Int) (h1 : 1 ≤ n) (h2 : n ≤ 31) : JlK 0 x n k = k ⟨.sc (.int .u32 (rr x n)), [], []⟩ := by
  refine Jjy (P := fun n => JlK 0 x n k = k ⟨.sc (.int .u32 (rr x n)), [], []⟩) ?_ n h1 h2
  intro m hm
  iterate 31 (rcases m with _ | m; · kernel_rfl)
  omega
theorem JjA : Ji tau Try.prog 124 Jjz := JsW.of fun xs es k res hr => by
  change JcM xs es k = some res at hr
  unfold JcM at hr
  split at hr
  · obtain ⟨hc, hr⟩ := JI hr
    simp only [Bool.and_eq_true, decide_eq_true_eq] at hc
    exact (JfM _ _ _ hc.1 hc.2).trans hr
  · cases hr
def JfN : List PV → List Ent → (Res → Option Res) → Option Res
  | [.sc (.int .u32 x), .sc (.int .u64 n)], [], k => bif decide (1 ≤ n) && decide (n ≤ 31) then k ⟨.sc (.int .u32 (rr x n)), [], []⟩ else none
  | _, _, _ => none
def JsZ : Sig := { own := [], run := JfN }
theorem Jit (x : Int) (k : Res → Option Res) (n : Int) (h1 : 1 ≤ n) (h2 : n ≤ 31) : g73 0 x n k = k ⟨.sc (.int .u32 (rr x n)), [], []⟩ := by
  have hc : ∀ n, rr x n = JC .or .u32 (Jx .u32 x n) (Xb .u32 x (32 - n)) := fun n => JcL _ _
  rw [hc]
  refine Jjy (P := fun n => g73 0 x n k = k ⟨.sc (.int .u32 (JC .or .u32 (Jx .u32 x n) (Xb .u32 x (32 - n)))), [], []⟩) ?_ n h1 h2
  intro m hm
  iterate 31 (rcases m with _ | m; · kernel_rfl)
  omega
theorem Js0 : Ji tau Try.prog 73 JsZ := Jxj.of fun xs es k res hr => by
  change JfN xs es k = some res at hr
  unfold JfN at hr
  split at hr
  · obtain ⟨hc, hr⟩ := JI hr
    simp only [Bool.and_eq_true, decide_eq_true_eq] at hc
    exact (Jit _ _ _ hc.1 hc.2).trans hr
  · cases hr
def Xq : Nat := 89
noncomputable def Jef : Fns := JG 124 Jjz (F0)
theorem JcN : Jz tau Try.prog Jef := (JH).add JjA JnY
noncomputable def V2 : Code := QA (Try.f122.body.get!) [1, 1, 0, 1, 0, 0]
def Wr : Nm := [(0, .any), (2, .any), (3, .any), (8, .any)]
def WW : Nm := [(2, .any), (3, .any)]
def JaC : An := (.seq .leaf (.seq (.cond .leaf .leaf) (.seq (.block none (.seq .leaf .leaf)) .leaf)))
noncomputable def V3 : Code := QA (Try.f122.body.get!) [1, 1, 1, 0, 1, 0, 0]
def Ws : Nm := [(2, .any), (3, .any), (5, .any)]
def WX : Nm := [(2, .any), (3, .any)]
def JaD : An := (.seq (.seq .leaf (.cond .leaf .leaf)) (.seq (.block none (.seq .leaf .leaf)) .leaf))
def JjB (r0 : Wg) (r1 : Wg) : An := (.seq .leaf (.seq .leaf (.seq (.seq .leaf (.block none (.sum Wr Xq r0))) (.seq (.seq .leaf (.block none (.sum Ws Xq r1))) (.seq .leaf .leaf)))))
noncomputable def Yx (f : Nat) (rc : Bool → Bool → List PV → Int → List PV → List PV → Option Res) (k0 : List PV → List PV → Option Res) (v0 : Bool) (v1 : Bool) (v2 : List PV) (v3 : Int) (v4 : List PV) (v5 : List PV) : Option Res := bif decide (v3 < 16) then bif decide (0 ≤ IntKind.i64.wrap (4 * v3)) && decide (IntKind.i64.wrap (4 * v3) < zi v2.length) && PV.isInt IntKind.u8 (v2.getD (IntKind.i64.wrap (4 * v3)).toNat PV.top) && true then bif decide (0 ≤ IntKind.i64.wrap (IntKind.i64.wrap (4 * v3) + 1)) && decide (IntKind.i64.wrap (IntKind.i64.wrap (4 * v3) + 1) < zi v2.length) && PV.isInt IntKind.u8 (v2.getD (IntKind.i64.wrap (IntKind.i64.wrap (4 * v3) + 1)).toNat PV.top) && true then bif decide (0 ≤ IntKind.i64.wrap (IntKind.i64.wrap (4 * v3) + 2)) && decide (IntKind.i64.wrap (IntKind.i64.wrap (4 * v3) + 2) < zi v2.length) && PV.isInt IntKind.u8 (v2.getD (IntKind.i64.wrap (IntKind.i64.wrap (4 * v3) + 2)).toNat PV.top) && true then bif decide (0 ≤ IntKind.i64.wrap (IntKind.i64.wrap (4 * v3) + 3)) && decide (IntKind.i64.wrap (IntKind.i64.wrap (4 * v3) + 3) < zi v2.length) && PV.isInt IntKind.u8 (v2.getD (IntKind.i64.wrap (IntKind.i64.wrap (4 * v3) + 3)).toNat PV.top) && true then bif decide (0 ≤ v3) && decide (v3 < zi 64) && true then rc v0 v1 v2 (IntKind.i64.wrap (v3 + 1)) v4 (v5.set v3.toNat (.sc (.int .u32 (JC BinOp.or IntKind.u32 (JC BinOp.or IntKind.u32 (JC BinOp.or IntKind.u32 (Xb IntKind.u32 (IntKind.u32.wrap (v2.getD (IntKind.i64.wrap (4 * v3)).toNat PV.top).int) 24) (Xb IntKind.u32 (IntKind.u32.wrap (v2.getD (IntKind.i64.wrap (IntKind.i64.wrap (4 * v3) + 1)).toNat PV.top).int) 16)) (Xb IntKind.u32 (IntKind.u32.wrap (v2.getD (IntKind.i64.wrap (IntKind.i64.wrap (4 * v3) + 2)).toNat PV.top).int) 8)) (IntKind.u32.wrap (v2.getD (IntKind.i64.wrap (IntKind.i64.wrap (4 * v3) + 3)).toNat PV.top).int))))) else none else none else none else none else none else k0 v4 v5
noncomputable def WY (f : Nat) (k0 : List PV → List PV → Option Res) : Nat → Bool → Bool → List PV → Int → List PV → List PV → Option Res
  | 0, _, _, _, _, _, _ => none
  | n + 1, v0, v1, v2, v3, v4, v5 => Yx f (WY f k0 n) k0 v0 v1 v2 v3 v4 v5
theorem JjC (f : Nat) (k : Kont) (n : Nat) (v0 : Bool) (v1 : Bool) (v2 : List PV) (v3 : Int) (v4 : List PV) (v5 : List PV) : Jo tau 0 Wr (fun s k => ev tau Jef 0 0 V2 (JaC ) s k) (n + 1) (Jd Wr Xq [.ro 5 v0 v1 v2, .ptr 1440 [], .ptr 1441 [], .sc (.int .i64 v3)] [(1440, .box false 118 (PV.ar 118 v4)), (1441, .box false 118 (PV.ar 118 v5))]) (Jy tau 0 WW k) = Yx f (fun v0 v1 v2 v3 v4 v5 => Jo tau 0 Wr (fun s k => ev tau Jef 0 0 V2 (JaC ) s k) n (Jd Wr Xq [.ro 5 v0 v1 v2, .ptr 1440 [], .ptr 1441 [], .sc (.int .i64 v3)] [(1440, .box false 118 (PV.ar 118 v4)), (1441, .box false 118 (PV.ar 118 v5))]) (Jy tau 0 WW k)) (fun x0 x1 => k (Ex.exit 0) (Jd WW Xq [.ptr 1440 [], .ptr 1441 []] [(1440, .box false 118 (PV.ar 118 x0)), (1441, .box false 118 (PV.ar 118 x1))])) v0 v1 v2 v3 v4 v5 := by kernel_rfl
theorem Jeg (f : Nat) (k : Kont) : ∀ (n : Nat) (v0 : Bool) (v1 : Bool) (v2 : List PV) (v3 : Int) (v4 : List PV) (v5 : List PV), Jo tau 0 Wr (fun s k => ev tau Jef 0 0 V2 (JaC ) s k) n (Jd Wr Xq [.ro 5 v0 v1 v2, .ptr 1440 [], .ptr 1441 [], .sc (.int .i64 v3)] [(1440, .box false 118 (PV.ar 118 v4)), (1441, .box false 118 (PV.ar 118 v5))]) (Jy tau 0 WW k) = WY f (fun x0 x1 => k (Ex.exit 0) (Jd WW Xq [.ptr 1440 [], .ptr 1441 []] [(1440, .box false 118 (PV.ar 118 x0)), (1441, .box false 118 (PV.ar 118 x1))])) n v0 v1 v2 v3 v4 v5 | 0, _, _, _, _, _, _ => rfl | n + 1, v0, v1, v2, v3, v4, v5 => (JjC f k n v0 v1 v2 v3 v4 v5).trans (congrArg (fun r => Yx f r (fun x0 x1 => k (Ex.exit 0) (Jd WW Xq [.ptr 1440 [], .ptr 1441 []] [(1440, .box false 118 (PV.ar 118 x0)), (1441, .box false 118 (PV.ar 118 x1))])) v0 v1 v2 v3 v4 v5) (by funext v0 v1 v2 v3 v4 v5; exact Jeg f k n v0 v1 v2 v3 v4 v5))
noncomputable def V4 (f : Nat) : List PV → List (Nat × Ent) → Kont → Option Res
  | [.ro 5 v0 v1 v2, .ptr 1440 [], .ptr 1441 [],
  PV.sc
    (Value.int IntKind.i64
      v3)], [(1440, .box false 118 (PV.ar 118 v4)),
  (1441,
    Ent.box false 118
      (PV.ar 118
        v5))], k => WY f (fun x0 x1 => k (Ex.exit
  0) (Jd WW Xq [.ptr 1440 [], .ptr 1441 []] [(1440, .box false 118 (PV.ar 118 x0)), (1441, .box false 118 (PV.ar 118 x1))])) f v0 v1 v2 v3 v4 v5
  | _, _, _ => none
theorem JlM (f : Nat) : Jg V2 JaC = [] := by kernel_rfl
theorem JpT (f : Nat) : (Item.l V2 Wr Xq (V4 f)).Ok tau Try.prog 0 := JJ Jr JcN Js (x := JaC) (nm2 := WW) (Jp _ _ (by rw [JlM f]; intro q hq; cases hq)) fun vs hp k res hr => by
  unfold V4 at hr
  split at hr
  · exact ⟨f, 0, (Jeg f _ f _ _ _ _ _ _ ).trans hr⟩
  · cases hr
noncomputable def Yy (f : Nat) (rc : Int → List PV → List PV → Option Res) (k0 : List PV → List PV → Option Res) (v0 : Int) (v1 : List PV) (v2 : List PV) : Option Res := bif decide (v0 < 64) then bif decide (0 ≤ IntKind.i64.wrap (v0 - 15)) && decide (IntKind.i64.wrap (v0 - 15) < zi 64) && true then bif PV.isInt IntKind.u32 (Jm (PV.ar 118 v2) [(IntKind.i64.wrap (v0 - 15)).toNat]) && true then bif decide (0 ≤ IntKind.i64.wrap (v0 - 2)) && decide (IntKind.i64.wrap (v0 - 2) < zi 64) && true then bif PV.isInt IntKind.u32 (Jm (PV.ar 118 v2) [(IntKind.i64.wrap (v0 - 2)).toNat]) && true then bif decide (0 ≤ IntKind.i64.wrap (v0 - 16)) && decide (IntKind.i64.wrap (v0 - 16) < zi 64) && true then bif PV.isInt IntKind.u32 (Jm (PV.ar 118 v2) [(IntKind.i64.wrap (v0 - 16)).toNat]) && true then bif decide (0 ≤ IntKind.i64.wrap (v0 - 7)) && decide (IntKind.i64.wrap (v0 - 7) < zi 64) && true then bif PV.isInt IntKind.u32 (Jm (PV.ar 118 v2) [(IntKind.i64.wrap (v0 - 7)).toNat]) && true then bif decide (0 ≤ v0) && decide (v0 < zi 64) && true then rc (IntKind.i64.wrap (v0 + 1)) v1 (v2.set v0.toNat (.sc (.int .u32 (IntKind.u32.wrap (IntKind.u32.wrap (IntKind.u32.wrap ((Jm (PV.ar 118 v2) [(IntKind.i64.wrap (v0 - 16)).toNat]).int + JC BinOp.xor IntKind.u32 (JC BinOp.xor IntKind.u32 (rr (Jm (PV.ar 118 v2) [(IntKind.i64.wrap (v0 - 15)).toNat]).int 7) (rr (Jm (PV.ar 118 v2) [(IntKind.i64.wrap (v0 - 15)).toNat]).int 18)) (Jx IntKind.u32 (Jm (PV.ar 118 v2) [(IntKind.i64.wrap (v0 - 15)).toNat]).int 3)) + (Jm (PV.ar 118 v2) [(IntKind.i64.wrap (v0 - 7)).toNat]).int) + JC BinOp.xor IntKind.u32 (JC BinOp.xor IntKind.u32 (rr (Jm (PV.ar 118 v2) [(IntKind.i64.wrap (v0 - 2)).toNat]).int 17) (rr (Jm (PV.ar 118 v2) [(IntKind.i64.wrap (v0 - 2)).toNat]).int 19)) (Jx IntKind.u32 (Jm (PV.ar 118 v2) [(IntKind.i64.wrap (v0 - 2)).toNat]).int 10)))))) else none else none else none else none else none else none else none else none else none else k0 v1 v2
noncomputable def WZ (f : Nat) (k0 : List PV → List PV → Option Res) : Nat → Int → List PV → List PV → Option Res
  | 0, _, _, _ => none
  | n + 1, v0, v1, v2 => Yy f (WZ f k0 n) k0 v0 v1 v2
theorem JjD (f : Nat) (k : Kont) (n : Nat) (v0 : Int) (v1 : List PV) (v2 : List PV) : Jo tau 0 Ws (fun s k => ev tau Jef 0 0 V3 (JaD ) s k) (n + 1) (Jd Ws Xq [.ptr 1440 [], .ptr 1441 [], .sc (.int .i64 v0)] [(1440, .box false 118 (PV.ar 118 v1)), (1441, .box false 118 (PV.ar 118 v2))]) (Jy tau 0 WX k) = Yy f (fun v0 v1 v2 => Jo tau 0 Ws (fun s k => ev tau Jef 0 0 V3 (JaD ) s k) n (Jd Ws Xq [.ptr 1440 [], .ptr 1441 [], .sc (.int .i64 v0)] [(1440, .box false 118 (PV.ar 118 v1)), (1441, .box false 118 (PV.ar 118 v2))]) (Jy tau 0 WX k)) (fun x0 x1 => k (Ex.exit 2) (Jd WX Xq [.ptr 1440 [], .ptr 1441 []] [(1440, .box false 118 (PV.ar 118 x0)), (1441, .box false 118 (PV.ar 118 x1))])) v0 v1 v2 := by kernel_rfl
theorem Jeh (f : Nat) (k : Kont) : ∀ (n : Nat) (v0 : Int) (v1 : List PV) (v2 : List PV), Jo tau 0 Ws (fun s k => ev tau Jef 0 0 V3 (JaD ) s k) n (Jd Ws Xq [.ptr 1440 [], .ptr 1441 [], .sc (.int .i64 v0)] [(1440, .box false 118 (PV.ar 118 v1)), (1441, .box false 118 (PV.ar 118 v2))]) (Jy tau 0 WX k) = WZ f (fun x0 x1 => k (Ex.exit 2) (Jd WX Xq [.ptr 1440 [], .ptr 1441 []] [(1440, .box false 118 (PV.ar 118 x0)), (1441, .box false 118 (PV.ar 118 x1))])) n v0 v1 v2 | 0, _, _, _ => rfl | n + 1, v0, v1, v2 => (JjD f k n v0 v1 v2).trans (congrArg (fun r => Yy f r (fun x0 x1 => k (Ex.exit 2) (Jd WX Xq [.ptr 1440 [], .ptr 1441 []] [(1440, .box false 118 (PV.ar 118 x0)), (1441, .box false 118 (PV.ar 118 x1))])) v0 v1 v2) (by funext v0 v1 v2; exact Jeh f k n v0 v1 v2))
noncomputable def V5 (f : Nat) : List PV → List (Nat × Ent) → Kont → Option Res
  | [.ptr 1440 [], .ptr 1441 [],
  PV.sc
    (Value.int IntKind.i64
      v0)], [(1440, .box false 118 (PV.ar 118 v1)),
  (1441,
    Ent.box false 118
      (PV.ar 118
        v2))], k => WZ f (fun x0 x1 => k (Ex.exit
  2) (Jd WX Xq [.ptr 1440 [], .ptr 1441 []] [(1440, .box false 118 (PV.ar 118 x0)), (1441, .box false 118 (PV.ar 118 x1))])) f v0 v1 v2
  | _, _, _ => none
theorem JlN (f : Nat) : Jg V3 JaD = [] := by kernel_rfl
theorem JpU (f : Nat) : (Item.l V3 Ws Xq (V5 f)).Ok tau Try.prog 0 := JJ Jr JcN Js (x := JaD) (nm2 := WX) (Jp _ _ (by rw [JlN f]; intro q hq; cases hq)) fun vs hp k res hr => by
  unfold V5 at hr
  split at hr
  · exact ⟨f, 0, (Jeh f _ f _ _ _ ).trans hr⟩
  · cases hr
noncomputable def Js1 (f : Nat) (b_z : Bool) (b_f : Bool) (b : List PV) (k : Res → Option Res) : Option Res := WY f (fun x0_0 x1_0 => WZ f (fun x0_1 x1_1 => k (Res.mk (.ar 118 x1_1) [] [])) f (16) x0_0 x1_0) f b_z b_f b (0) ([.sc (.int .u32 0), .sc (.int .u32 0), .sc (.int .u32 0), .sc (.int .u32 0), .sc (.int .u32 0), .sc (.int .u32 0), .sc (.int .u32 0), .sc (.int .u32 0), .sc (.int .u32 0), .sc (.int .u32 0), .sc (.int .u32 0), .sc (.int .u32 0), .sc (.int .u32 0), .sc (.int .u32 0), .sc (.int .u32 0), .sc (.int .u32 0), .sc (.int .u32 0), .sc (.int .u32 0), .sc (.int .u32 0), .sc (.int .u32 0), .sc (.int .u32 0), .sc (.int .u32 0), .sc (.int .u32 0), .sc (.int .u32 0), .sc (.int .u32 0), .sc (.int .u32 0), .sc (.int .u32 0), .sc (.int .u32 0), .sc (.int .u32 0), .sc (.int .u32 0), .sc (.int .u32 0), .sc (.int .u32 0), .sc (.int .u32 0), .sc (.int .u32 0), .sc (.int .u32 0), .sc (.int .u32 0), .sc (.int .u32 0), .sc (.int .u32 0), .sc (.int .u32 0), .sc (.int .u32 0), .sc (.int .u32 0), .sc (.int .u32 0), .sc (.int .u32 0), .sc (.int .u32 0), .sc (.int .u32 0), .sc (.int .u32 0), .sc (.int .u32 0), .sc (.int .u32 0), .sc (.int .u32 0), .sc (.int .u32 0), .sc (.int .u32 0), .sc (.int .u32 0), .sc (.int .u32 0), .sc (.int .u32 0), .sc (.int .u32 0), .sc (.int .u32 0), .sc (.int .u32 0), .sc (.int .u32 0), .sc (.int .u32 0), .sc (.int .u32 0), .sc (.int .u32 0), .sc (.int .u32 0), .sc (.int .u32 0), .sc (.int .u32 0)]) ([.sc (.int .u32 0), .sc (.int .u32 0), .sc (.int .u32 0), .sc (.int .u32 0), .sc (.int .u32 0), .sc (.int .u32 0), .sc (.int .u32 0), .sc (.int .u32 0), .sc (.int .u32 0), .sc (.int .u32 0), .sc (.int .u32 0), .sc (.int .u32 0), .sc (.int .u32 0), .sc (.int .u32 0), .sc (.int .u32 0), .sc (.int .u32 0), .sc (.int .u32 0), .sc (.int .u32 0), .sc (.int .u32 0), .sc (.int .u32 0), .sc (.int .u32 0), .sc (.int .u32 0), .sc (.int .u32 0), .sc (.int .u32 0), .sc (.int .u32 0), .sc (.int .u32 0), .sc (.int .u32 0), .sc (.int .u32 0), .sc (.int .u32 0), .sc (.int .u32 0), .sc (.int .u32 0), .sc (.int .u32 0), .sc (.int .u32 0), .sc (.int .u32 0), .sc (.int .u32 0), .sc (.int .u32 0), .sc (.int .u32 0), .sc (.int .u32 0), .sc (.int .u32 0), .sc (.int .u32 0), .sc (.int .u32 0), .sc (.int .u32 0), .sc (.int .u32 0), .sc (.int .u32 0), .sc (.int .u32 0), .sc (.int .u32 0), .sc (.int .u32 0), .sc (.int .u32 0), .sc (.int .u32 0), .sc (.int .u32 0), .sc (.int .u32 0), .sc (.int .u32 0), .sc (.int .u32 0), .sc (.int .u32 0), .sc (.int .u32 0), .sc (.int .u32 0), .sc (.int .u32 0), .sc (.int .u32 0), .sc (.int .u32 0), .sc (.int .u32 0), .sc (.int .u32 0), .sc (.int .u32 0), .sc (.int .u32 0), .sc (.int .u32 0)])
theorem Jxk (f : Nat) (b_z : Bool) (b_f : Bool) (b : List PV) (k : Res → Option Res) : JR tau Jef Try.f122 (Try.f122.body.get!) (JjB (V4 f) (V5 f)) [] 0 [.ro 5 b_z b_f b] [] k = Js1 f b_z b_f b k := by kernel_rfl
theorem Js2 (f : Nat) : Jg (Try.f122.body.get!) (JjB (V4 f) (V5 f)) = [.l V2 Wr Xq (V4 f), .l V3 Ws Xq (V5 f)] := by kernel_rfl
theorem Js3 (f : Nat) : ∀ q ∈ Jg (Try.f122.body.get!) (JjB (V4 f) (V5 f)), q.Ok tau Try.prog 0 := by
  rw [Js2 f]; simp only [List.forall_mem_cons, List.not_mem_nil, false_implies, implies_true, and_true]; exact ⟨JpT f, JpU f⟩
theorem JnZ : Try.prog.funcs[122]? = some Try.f122 := by kernel_rfl
theorem Jn0 : Try.f122.body = some (Try.f122.body.get!) := by kernel_rfl
theorem Js4 : Enters Try.prog 122 := enters_of JnZ (by kernel_rfl) Jn0
-- FN sha.spread
abbrev ww (x : Int) : Int := IntKind.u32.wrap x
def Js5 (a b c d : Int) : Int := JC .or .u32 (JC .or .u32 (JC .or .u32 (Xb .u32 (ww a) 24) (Xb .u32 (ww b) 16)) (Xb .u32 (ww c) 8)) (ww d)
def sg0 (x : Int) : Int := JC .xor .u32 (JC .xor .u32 (rr x 7) (rr x 18)) (Jx .u32 x 3)
def sg1 (x : Int) : Int := JC .xor .u32 (JC .xor .u32 (rr x 17) (rr x 19)) (Jx .u32 x 10)
def JlO (w16 w15 w7 w2 : Int) : Int := ww (ww (ww (w16 + sg0 w15) + w7) + sg1 w2)
def Jbh (bs : List Int) (j : Nat) : Int := Js5 (bs.getD (4 * j) 0) (bs.getD (4 * j + 1) 0) (bs.getD (4 * j + 2) 0) (bs.getD (4 * j + 3) 0)
def Qi (bs : List Int) : Nat → List Int
  | 0 => (List.range 16).map (Jbh bs)
  | i + 1 => Qi bs i ++ [JlO ((Qi bs i).getD i 0) ((Qi bs i).getD (i + 1) 0) ((Qi bs i).getD (i + 9) 0) ((Qi bs i).getD (i + 14) 0)]
def J8 (bs : List Int) : List Int := Qi bs 48
theorem JU (bs : List Int) : ∀ i, (Qi bs i).length = 16 + i
  | 0 => by simp [Qi]
  | i + 1 => by simp [Qi, JU bs i]; omega
def JaE (bs : List Int) (i : Nat) : List Int := (List.range i).map (Jbh bs) ++ List.replicate (64 - i) 0
def GA (bs : List Int) (i : Nat) : List Int := Qi bs i ++ List.replicate (48 - i) 0
theorem JcO (bs : List Int) (i : Nat) (h : i ≤ 48) : (GA bs i).length = 64 := by simp [GA, JU]; omega
theorem Jei (L : List Int) (m : Nat) (x : Int) : (L ++ List.replicate (m + 1) 0).set L.length x = (L ++ [x]) ++ List.replicate m 0 := by
  simp [List.replicate_succ]
theorem Jiu (bs : List Int) (i : Nat) (h : i < 64) : (JaE bs i).set i (Jbh bs i) = JaE bs (i + 1) := by
  have := Jei ((List.range i).map (Jbh bs)) (63 - i) (Jbh bs i)
  simp only [List.length_map, List.length_range] at this
  simp only [JaE, show 64 - i = 63 - i + 1 from by omega, this, show 64 - (i + 1) = 63 - i from by omega, List.range_succ, List.map_append, List.map_cons, List.map_nil]
theorem Zh (bs : List Int) (i j : Nat) (h : j < 16 + i) : (GA bs i).getD j 0 = (Qi bs i).getD j 0 := by
  simp only [GA, List.getD_eq_getElem?_getD]
  rw [List.getElem?_append_left (by rw [JU]; exact h)]
theorem Jiv (bs : List Int) (i : Nat) (h : i < 48) (x : Int) : (GA bs i).set (i + 16) x = (Qi bs i ++ [x]) ++ List.replicate (48 - (i + 1)) 0 := by
  have := Jei (Qi bs i) (47 - i) x
  rw [JU] at this
  rw [GA, show 48 - i = 47 - i + 1 from by omega, show i + 16 = 16 + i from by omega, this, show 48 - (i + 1) = 47 - i from by omega]
theorem JjE (bs : List Int) (hb : bs.length = 64) (f : Nat) (k0 : List PV → List PV → Option Res) (nl fl : Bool) (w : List PV) : ∀ (d i n : Nat), i + d = 16 → d < n →
    WY f k0 n nl fl (pu .u8 bs) (i : Int) w (pu .u32 (JaE bs i)) = k0 w (pu .u32 (JaE bs 16))
  | 0, i, n + 1, h, hn => by
      obtain rfl : i = 16 := by omega
      simp only [WY, Yx]
      exact JL (by decide)
  | d + 1, i, n + 1, h, hn => by
      have h4 : IntKind.i64.wrap (4 * (i : Int)) = ((4 * i : Nat) : Int) := by rw [wrap_i64 (by omega) (by omega)]; omega
      have h41 : IntKind.i64.wrap (((4 * i : Nat) : Int) + 1) = ((4 * i + 1 : Nat) : Int) := by rw [wrap_i64 (by omega) (by omega)]; omega
      have h42 : IntKind.i64.wrap (((4 * i : Nat) : Int) + 2) = ((4 * i + 2 : Nat) : Int) := by rw [wrap_i64 (by omega) (by omega)]; omega
      have h43 : IntKind.i64.wrap (((4 * i : Nat) : Int) + 3) = ((4 * i + 3 : Nat) : Int) := by rw [wrap_i64 (by omega) (by omega)]; omega
      have h5 : IntKind.i64.wrap ((i : Int) + 1) = ((i + 1 : Nat) : Int) := by rw [wrap_i64 (by omega) (by omega)]; omega
      simp only [WY, Yx, h4, h41, h42, h43, h5, Int.toNat_natCast, zi]
      rw [JT (by omega), JT (by omega), JT (by omega), JT (by omega), Qk (by omega), Qk (by omega), Qk (by omega), Qk (by omega), JF, Wk]
      refine (Jb (by simp; omega)).trans ?_
      refine (Jb (by simp; omega)).trans ?_
      refine (Jb (by simp; omega)).trans ?_
      refine (Jb (by simp; omega)).trans ?_
      refine (Jb (by simp; omega)).trans ?_
      refine (Jb (by simp; omega)).trans ?_
      have := JjE bs hb f k0 nl fl w d (i + 1) n (by omega) (by omega)
      rw [← Jiu bs i (by omega)] at this
      exact this
theorem JjF (bs : List Int) (f : Nat) (k0 : List PV → List PV → Option Res) (w : List PV) : ∀ (d i n : Nat), i + d = 48 → d < n →
    WZ f k0 n ((i + 16 : Nat) : Int) w (pu .u32 (GA bs i)) = k0 w (pu .u32 (Qi bs 48))
  | 0, i, n + 1, h, hn => by
      obtain rfl : i = 48 := by omega
      simp only [WZ, Yy]
      exact (JL (by decide)).trans (by simp [GA])
  | d + 1, i, n + 1, h, hn => by
      have h15 : IntKind.i64.wrap (((i + 16 : Nat) : Int) - 15) = ((i + 1 : Nat) : Int) := by rw [wrap_i64 (by omega) (by omega)]; omega
      have h2 : IntKind.i64.wrap (((i + 16 : Nat) : Int) - 2) = ((i + 14 : Nat) : Int) := by rw [wrap_i64 (by omega) (by omega)]; omega
      have h16 : IntKind.i64.wrap (((i + 16 : Nat) : Int) - 16) = ((i : Nat) : Int) := by rw [wrap_i64 (by omega) (by omega)]; omega
      have h7 : IntKind.i64.wrap (((i + 16 : Nat) : Int) - 7) = ((i + 9 : Nat) : Int) := by rw [wrap_i64 (by omega) (by omega)]; omega
      have h1 : IntKind.i64.wrap (((i + 16 : Nat) : Int) + 1) = ((i + 1 + 16 : Nat) : Int) := by rw [wrap_i64 (by omega) (by omega)]; omega
      have hl := JcO bs i (by omega)
      simp only [WZ, Yy, h15, h2, h16, h7, h1, Int.toNat_natCast, zi, Wp]
      rw [JT (by omega), JT (by omega), JT (by omega), JT (by omega), Qk (by omega), Qk (by omega), Qk (by omega), Qk (by omega), Wk]
      refine (Jb (by simp; omega)).trans ?_
      refine (Jb (by simp; omega)).trans ?_
      refine (Jb (by simp)).trans ?_
      refine (Jb (by simp; omega)).trans ?_
      refine (Jb (by simp)).trans ?_
      refine (Jb (by simp; omega)).trans ?_
      refine (Jb (by simp)).trans ?_
      refine (Jb (by simp; omega)).trans ?_
      refine (Jb (by simp)).trans ?_
      refine (Jb (by simp; omega)).trans ?_
      have := JjF bs f k0 w d (i + 1) n (by omega) (by omega)
      rw [Zh bs i i (by omega), Zh bs i (i + 1) (by omega), Zh bs i (i + 9) (by omega), Zh bs i (i + 14) (by omega), Jiv bs i (by omega)]
      exact this
theorem JlP (bs : List Int) (hb : bs.length = 64) (nl fl : Bool) (k : Res → Option Res) : Js1 100 nl fl (pu .u8 bs) k = k ⟨.ar 118 (pu .u32 (J8 bs)), [], []⟩ := by
  have h0 : ∀ k0 w, WY 100 k0 100 nl fl (pu .u8 bs) 0 w (pu .u32 (List.replicate 64 0)) = k0 w (pu .u32 (JaE bs 16)) := fun k0 w => JjE bs hb 100 k0 nl fl w 16 0 100 (by omega) (by omega)
  have h1 : ∀ k0 w, WZ 100 k0 100 16 w (pu .u32 (JaE bs 16)) = k0 w (pu .u32 (Qi bs 48)) := fun k0 w => JjF bs 100 k0 w 48 0 100 (by omega) (by omega)
  exact (h0 _ _).trans (h1 _ _)
def JcP : List PV → List Ent → (Res → Option Res) → Option Res
  | [.ro 5 nl fl b], [], k => bif Jf .u8 b && decide (b.length = 64) then k ⟨.ar 118 (pu .u32 (J8 (Je b))), [], []⟩ else none
  | _, _, _ => none
def Jn1 : Sig := { own := [], run := JcP }
theorem JpV : Ji tau Try.prog 122 Jn1 := J3 Jr JcN Js JnZ Jn0 _ [] 0 [] JcP (Js3 100) fun xs es k res hr => by
  unfold JcP at hr
  split at hr
  · obtain ⟨hc, hr⟩ := JI hr
    simp only [Bool.and_eq_true, decide_eq_true_eq] at hc
    refine ⟨rfl, 0, (Jxk 100 _ _ _ _).trans ?_⟩
    rw [Qa hc.1, JlP _ (by simpa using hc.2)]
    exact hr
  · cases hr
def Qp (g : Nat → Int) (t : List Int) (i : Nat) : List Int := (List.range i).map g ++ t.drop i
theorem Qw (g : Nat → Int) (t : List Int) : Qp g t 0 = t := by simp [Qp]
theorem QL (g : Nat → Int) (t : List Int) : Qp g t t.length = (List.range t.length).map g := by simp [Qp]
theorem XG (g : Nat → Int) (t : List Int) (i : Nat) (h : i ≤ t.length) : (Qp g t i).length = t.length := by simp [Qp]; omega
theorem Ql (g : Nat → Int) (t : List Int) (i : Nat) (h : i < t.length) : (Qp g t i).set i (g i) = Qp g t (i + 1) := by
  rw [Qp, List.set_append_right _ _ (by simp), List.drop_eq_getElem_cons h, List.length_map, List.length_range, Nat.sub_self, List.set_cons_zero]
  simp [Qp, List.range_succ]
theorem V6 (g : Nat → Int) (t : List Int) (i : Nat) (h : i < t.length) : (Qp g t i).getD i 0 = t.getD i 0 := by
  simp only [Qp, List.getD_eq_getElem?_getD]
  rw [List.getElem?_append_right (by simp)]
  simp
def kks : List Int := [1116352408, 1899447441, 3049323471, 3921009573, 961987163, 1508970993, 2453635748, 2870763221, 3624381080, 310598401, 607225278, 1426881987, 1925078388, 2162078206, 2614888103, 3248222580, 3835390401, 4022224774, 264347078, 604807628, 770255983, 1249150122, 1555081692, 1996064986, 2554220882, 2821834349, 2952996808, 3210313671, 3336571891, 3584528711, 113926993, 338241895, 666307205, 773529912, 1294757372, 1396182291, 1695183700, 1986661051, 2177026350, 2456956037, 2730485921, 2820302411, 3259730800, 3345764771, 3516065817, 3600352804, 4094571909, 275423344, 430227734, 506948616, 659060556, 883997877, 958139571, 1322822218, 1537002063, 1747873779, 1955562222, 2024104815, 2227730452, 2361852424, 2428436474, 2756734187, 3204031479, 3329325298]
def iv : List Int := [1779033703, 3144134277, 1013904242, 2773480762, 1359893119, 2600822924, 528734635, 1541459225]
def xW (k w h e f g : Int) : Int := ww (ww (ww (ww (h + JC .xor .u32 (JC .xor .u32 (rr e 6) (rr e 11)) (rr e 25)) + JC .xor .u32 (JC .and .u32 e f) (JC .and .u32 (JC .xor .u32 (Int.ofNat (2 ^ IntKind.u32.bits - Nat.succ 0)) e) g)) + k) + w)
def yW (a b c : Int) : Int := ww (JC .xor .u32 (JC .xor .u32 (rr a 2) (rr a 13)) (rr a 22) + JC .xor .u32 (JC .xor .u32 (JC .and .u32 a b) (JC .and .u32 a c)) (JC .and .u32 b c))
def rnd (k w : Int) (t : List Int) : List Int :=
  [ww (xW k w (t.getD 7 0) (t.getD 4 0) (t.getD 5 0) (t.getD 6 0) + yW (t.getD 0 0) (t.getD 1 0) (t.getD 2 0)), t.getD 0 0, t.getD 1 0, t.getD 2 0,
    ww (t.getD 3 0 + xW k w (t.getD 7 0) (t.getD 4 0) (t.getD 5 0) (t.getD 6 0)), t.getD 4 0, t.getD 5 0, t.getD 6 0]
def Yz (W s : List Int) : Nat → List Int
  | 0 => s
  | i + 1 => rnd (kks.getD i 0) (W.getD i 0) (Yz W s i)
theorem W0 (W s : List Int) (h : s.length = 8) : ∀ i, (Yz W s i).length = 8
  | 0 => h
  | i + 1 => rfl
def Jej (s bs : List Int) : List Int := (List.range 8).map fun i => ww ((Yz (J8 bs) s 64).getD i 0 + s.getD i 0)
theorem Jek (s bs : List Int) : (Jej s bs).length = 8 := by simp [Jej]
def Q0 (s b : List Int) : Nat → List Int
  | 0 => s
  | n + 1 => Jej (Q0 s b n) ((b.drop (64 * n)).take 64)
theorem Wt (s b : List Int) (h : s.length = 8) : ∀ n, (Q0 s b n).length = 8
  | 0 => h
  | n + 1 => Jek _ _
def zs (m : Nat) : Nat := (120 - m % 64) % 64
def JlQ (n : Nat) : List Int := (List.range 8).map fun (i : Nat) => IntKind.u8.wrap (Jx .u64 (IntKind.u64.wrap (IntKind.u64.wrap (n : Int) * 8)) (56 - 8 * (i : Int)))
def Qq (bs : List Int) : List Int := (bs ++ [128] ++ List.replicate (zs (bs.length + 1)) 0) ++ JlQ bs.length
theorem GB (bs : List Int) : (Qq bs).length = 64 * ((Qq bs).length / 64) := by
  have : (Qq bs).length = bs.length + 1 + zs (bs.length + 1) + 8 := by simp [Qq, JlQ]; omega
  rw [this]; unfold zs; omega
def Yd (s : List Int) (i : Nat) : Int := IntKind.u8.wrap (Jx .u32 (s.getD (i / 4) 0) (24 - 8 * ((i % 4 : Nat) : Int)))
def Jiw (s : List Int) : List Int := (List.range 32).map (Yd s)
def Jg3 (bs : List Int) : List Int := Jiw (Q0 iv (Qq bs) ((Qq bs).length / 64))
def Jt (bs : List Int) : List Int := bif Nat.ble bs.length bs.length then Jg3 bs else []
theorem GZ (bs : List Int) : Jt bs = Jg3 bs := by
  have : Nat.ble bs.length bs.length = true := by rw [Nat.ble_eq]; exact Nat.le_refl _
  rw [Jt, this]; rfl
theorem JX (bs : List Int) : (Jt bs).length = 32 := by simp [GZ, Jg3, Jiw]
theorem JaF (n : Nat) : (zi n).tmod 64 = ((n % 64 : Nat) : Int) := by
  show (n : Int).tmod 64 = _
  rw [Int.tmod_eq_emod_of_nonneg (by omega)]; omega
-- FN ref8.Hash
def V7 : Nat → RS → RS
  | 0, s => s
  | n + 1, s => V7 n (Qb 1 s)
def V8 : Nat → RS → List Int
  | 0, _ => []
  | n + 1, s => IntKind.u8.wrap (Wh 1 s) :: V8 n (Qb 1 s)
def Jix : Nat → RT → RT
  | 0, t => t
  | n + 1, t => Jix n (XE 1 t)
noncomputable def hashS : RS → RS := hid (V7 32)
noncomputable def hashV : RS → List Int := hid (V8 32)
noncomputable def hashT : RT → RT := hid (Jix 32)
noncomputable def hashVT : RT → List Int := hid fun t => V8 32 t.view
theorem hashS_eq (s : RS) : hashS s = V7 32 s := by rw [hashS, hid_eq]
theorem hashV_eq (s : RS) : hashV s = V8 32 s := by rw [hashV, hid_eq]
theorem hashT_eq (t : RT) : hashT t = Jix 32 t := by rw [hashT, hid_eq]
theorem hashVT_eq (t : RT) : hashVT t = V8 32 t.view := by rw [hashVT, hid_eq]
theorem GC : ∀ (n : Nat) (s : RS), (V8 n s).length = n
  | 0, _ => rfl
  | n + 1, s => by simp [V8, GC n]
@[simp] theorem hashV_length (s : RS) : (hashV s).length = 32 := by rw [hashV_eq]; exact GC 32 s
theorem JbM : ∀ (n : Nat) (t : RT), (Jix n t).view = V7 n t.view
  | 0, _ => rfl
  | n + 1, t => by simp only [Jix, V7, JbM n, V0]
@[simp] theorem hashT_view (t : RT) : (hashT t).view = hashS t.view := by rw [hashT_eq, hashS_eq, JbM]
@[simp] theorem hashVT_val (t : RT) : hashVT t = hashV t.view := by rw [hashVT_eq, hashV_eq]
theorem Jg4 : ∀ (n : Nat) {t : RT}, okT t = true → okT (Jix n t) = true
  | 0, _, h => h
  | n + 1, t, h => Jg4 n (Vk h 1)
@[simp] theorem Js6 {t : RT} (h : okT t = true) : okT (hashT t) = true := by rw [hashT_eq]; exact Jg4 32 h
theorem Jg5 : ∀ (n : Nat) {s : RS}, byB s.b = true → byB (V7 n s).b = true
  | 0, _, h => h
  | n + 1, s, h => Jg5 n (Xp h 1)
-- FN wire.read
noncomputable def fS : Nat → RS → RS
  | 0, s => s
  | 1, s => Ja 1 s
  | n + 2, s => Ja 8 (fS (n + 1) s)
def JbN (c : Int) (s : RS) : RS := ⟨s.b, bif s.e == 0 then c else s.e⟩
noncomputable def txR : Nat → RS → RS
  | 0, s => s
  | n + 1, s => txR n (J2 s)
noncomputable def JpW (s : RS) : Int := JA 1 (fS 13 s)
noncomputable def Js7 (s : RS) : Nat := bif decide (JpW s > 4) then 0 else (JpW s).toNat
noncomputable def Js8 (s : RS) : RS := bif decide (JpW s > 4) then JbN 4 (Ja 1 (fS 13 s)) else Ja 1 (fS 13 s)
noncomputable def JpX : RS → List Int := hid fun s => hashV (txR (Js7 s) (Js8 s))
theorem JlR (s : RS) : JpX s = hashV (txR (Js7 s) (Js8 s)) := by rw [JpX, hid_eq]
@[simp] theorem Jn2 (s : RS) : (JpX s).length = 32 := by rw [JlR]; exact hashV_length _
theorem Qr {s : RS} (h : byB s.b = true) (n : Nat) : byB (Ja n s).b = true := by rw [WK]; exact Xp h n
theorem Jg6 {s : RS} (h : byB s.b = true) : byB (J2 s).b = true := by rw [GX]; exact Xp (Xp h 2) _
theorem YA : ∀ l : List PV, (Jl l).length = l.length
  | [] => rfl
  | p :: ps => by simp [Jl, YA ps]
theorem Jiy {s : RS} (h : byB s.b = true) : (JQ s).size ≤ 65535 := by
  rw [GY]
  show (Jl _).length ≤ _
  rw [YA]
  have h1 := ZJ (Wh 2 s).toNat (Qb 2 s)
  have h2 := XD h (n := 2) (Nat.le_refl 2)
  omega
theorem GD (t : ByteArray) : (Jn t).length = t.size := by simp only [Jn, List.length_map, Array.length_toList]; rfl
noncomputable def F78 : Fns := F0
theorem JpY : Jz tau Try.prog F78 := JH
def JlS : An := (.seq .leaf (.seq (.seq .leaf (.cond (.seq .leaf .leaf) .leaf)) (.seq .leaf .leaf)))
noncomputable def g78 (f : Nat) (r_b_z : Bool) (r_b_f : Bool) (r_b : List PV) (r_e : Int) (k : Res → Option Res) : Option Res := bif r_e == 0 then bif decide (zi r_b.length > 0) then k (Res.mk (.sc (.int .i64 9)) [.box false 186 (PV.st 186 [.ro 5 r_b_z r_b_f r_b, .sc (.int .i64 r_e)])] []) else k (Res.mk (.sc (.int .i64 r_e)) [.box false 186 (PV.st 186 [.ro 5 r_b_z r_b_f r_b, .sc (.int .i64 r_e)])] []) else k (Res.mk (.sc (.int .i64 r_e)) [.box false 186 (PV.st 186 [.ro 5 r_b_z r_b_f r_b, .sc (.int .i64 r_e)])] [])
theorem e78 (f : Nat) (r_b_z : Bool) (r_b_f : Bool) (r_b : List PV) (r_e : Int) (k : Res → Option Res) : JR tau F78 Try.f78 (Try.f78.body.get!) JlS [.ro] 0 [.ptr 0 []] [.box false 186 (.st 186 [.ro 5 r_b_z r_b_f r_b, .sc (.int .i64 r_e)])] k = g78 f r_b_z r_b_f r_b r_e k := by kernel_rfl
theorem Jxl (f : Nat) : Jg (Try.f78.body.get!) JlS = [] := by kernel_rfl
theorem Jxm (f : Nat) : ∀ q ∈ Jg (Try.f78.body.get!) JlS, q.Ok tau Try.prog 1 := by
  rw [Jxl f]; intro q hq; cases hq
theorem Js9 : Try.prog.funcs[78]? = some Try.f78 := by kernel_rfl
theorem Jta : Try.f78.body = some (Try.f78.body.get!) := by kernel_rfl
theorem Jtb : Enters Try.prog 78 := enters_of Js9 (by kernel_rfl) Jta
noncomputable def JjG : List PV → List Ent → (Res → Option Res) → Option Res
  | [.ptr 0 []], [.box false 186 (.st 186 [.ro 5 r_b_z r_b_f r_b, .sc (.int .i64 r_e)])], k => g78 0 r_b_z r_b_f r_b r_e k
  | _, _, _ => none
noncomputable def s78 : Sig := { own := [], run := JjG }
theorem Jtc : Ji tau Try.prog 78 s78 := J3 Jr JpY Js Js9 Jta JlS [.ro] 1 [] JjG (Jxm 0) fun xs es k res hr => by
  unfold JjG at hr
  split at hr
  · exact ⟨rfl, 0, (e78 0 _ _ _ _  _).trans hr⟩
  · cases hr





-- FN wire.check | wire.key
def QM (x m : Int) : Bool := decide (x ≥ 0) && decide (x ≤ m)
def Jxn (fr to wh wn cd cu ve co ad au su er : Int) : Bool := QM fr 2 && (QM to 2 && (!(fr == to) && (QM wh 2 && (QM wn 99 && (QM cd 2 && (QM cu 7 && (QM ad 2 && (QM au 7 && (QM ve 1073741824 && (QM co 1073741824 && (QM su 1073741824 && QM er 255)))))))))))
def Jxo (kd fr to wh wn cd cu ve co ad au su er : Int) : Int := bif QM (IntKind.i64.wrap (kd - 1)) 4 then (bif Jxn fr to wh wn cd cu ve co ad au su er then 0 else 1) else 3
structure C13 where
  (kd fr to wh wn cd cu ve co ad au su er : Int)
noncomputable def chk : C13 → Int := hid fun c => Jxo c.kd c.fr c.to c.wh c.wn c.cd c.cu c.ve c.co c.ad c.au c.su c.er
def WL (l : List PV) (d : Int) : PV := bif QM d 2 then l.getD d.toNat .top else .ro 5 true true []
structure K3 where
  (l : List PV) (d : Int)
noncomputable def Qs : K3 → List PV := hid fun c => (WL c.l c.d).els
noncomputable def JpZ : K3 → Bool := hid fun c => (WL c.l c.d).nl
noncomputable def Jp0 : K3 → Bool := hid fun c => (WL c.l c.d).fl
theorem G0 (c : K3) : Qs c = (WL c.l c.d).els := by rw [Qs, hid_eq]
theorem JlT (c : K3) : JpZ c = (WL c.l c.d).nl := by rw [JpZ, hid_eq]
theorem JlU (c : K3) : Jp0 c = (WL c.l c.d).fl := by rw [Jp0, hid_eq]
noncomputable def Jtd : Fns := F0
theorem JlV : Jz tau Try.prog Jtd := JH
def Jg7 : An := (.seq .leaf (.seq .leaf .leaf))
noncomputable def Jte (f : Nat) (k : Res → Option Res) : Option Res := k (Res.mk (.ar 118 [.sc (.int .u32 1116352408), .sc (.int .u32 1899447441), .sc (.int .u32 3049323471), .sc (.int .u32 3921009573), .sc (.int .u32 961987163), .sc (.int .u32 1508970993), .sc (.int .u32 2453635748), .sc (.int .u32 2870763221), .sc (.int .u32 3624381080), .sc (.int .u32 310598401), .sc (.int .u32 607225278), .sc (.int .u32 1426881987), .sc (.int .u32 1925078388), .sc (.int .u32 2162078206), .sc (.int .u32 2614888103), .sc (.int .u32 3248222580), .sc (.int .u32 3835390401), .sc (.int .u32 4022224774), .sc (.int .u32 264347078), .sc (.int .u32 604807628), .sc (.int .u32 770255983), .sc (.int .u32 1249150122), .sc (.int .u32 1555081692), .sc (.int .u32 1996064986), .sc (.int .u32 2554220882), .sc (.int .u32 2821834349), .sc (.int .u32 2952996808), .sc (.int .u32 3210313671), .sc (.int .u32 3336571891), .sc (.int .u32 3584528711), .sc (.int .u32 113926993), .sc (.int .u32 338241895), .sc (.int .u32 666307205), .sc (.int .u32 773529912), .sc (.int .u32 1294757372), .sc (.int .u32 1396182291), .sc (.int .u32 1695183700), .sc (.int .u32 1986661051), .sc (.int .u32 2177026350), .sc (.int .u32 2456956037), .sc (.int .u32 2730485921), .sc (.int .u32 2820302411), .sc (.int .u32 3259730800), .sc (.int .u32 3345764771), .sc (.int .u32 3516065817), .sc (.int .u32 3600352804), .sc (.int .u32 4094571909), .sc (.int .u32 275423344), .sc (.int .u32 430227734), .sc (.int .u32 506948616), .sc (.int .u32 659060556), .sc (.int .u32 883997877), .sc (.int .u32 958139571), .sc (.int .u32 1322822218), .sc (.int .u32 1537002063), .sc (.int .u32 1747873779), .sc (.int .u32 1955562222), .sc (.int .u32 2024104815), .sc (.int .u32 2227730452), .sc (.int .u32 2361852424), .sc (.int .u32 2428436474), .sc (.int .u32 2756734187), .sc (.int .u32 3204031479), .sc (.int .u32 3329325298)]) [] [])
theorem Jxp (f : Nat) (k : Res → Option Res) : JR tau Jtd Try.f123 (Try.f123.body.get!) Jg7 [.ro] 0 [] [] k = Jte f k := by kernel_rfl
theorem Jtf (f : Nat) : Jg (Try.f123.body.get!) Jg7 = [] := by kernel_rfl
theorem Jtg (f : Nat) : ∀ q ∈ Jg (Try.f123.body.get!) Jg7, q.Ok tau Try.prog 0 := by
  rw [Jtf f]; intro q hq; cases hq
theorem Jn3 : Try.prog.funcs[123]? = some Try.f123 := by kernel_rfl
theorem Jn4 : Try.f123.body = some (Try.f123.body.get!) := by kernel_rfl
theorem Jth : Enters Try.prog 123 := enters_of Jn3 (by kernel_rfl) Jn4
noncomputable def JfO : List PV → List Ent → (Res → Option Res) → Option Res
  | [], [], k => Jte 0  k
  | _, _, _ => none
noncomputable def Jti : Sig := { own := [], run := JfO }
theorem Jtj : Ji tau Try.prog 123 Jti := J3 Jr JlV Js Jn3 Jn4 Jg7 [.ro] 0 [] JfO (Jtg 0) fun xs es k res hr => by
  unfold JfO at hr
  split at hr
  · exact ⟨rfl, 0, (Jxp 0  _).trans hr⟩
  · cases hr
def N71 : Nat := 113
noncomputable def F71 : Fns := JG 123 Jti (JG 122 Jn1 (JG 124 Jjz F0))
theorem JfP : Jz tau Try.prog F71 := ((JH.add JjA JnY).add JpV Js4).add Jtj Jth
noncomputable def JbO : Code := QA (Try.f71.body.get!) [1, 1, 1, 0, 1, 0, 0]
def XH : Nm := [(2, .any), (4, .any), (5, .any), (6, .any), (7, .any), (18, .any)]
def YB : Nm := [(2, .any), (4, .any), (7, .any)]
def Jel : An := (.seq .leaf (.seq (.cond .leaf .leaf) (.seq (.block none (.seq .leaf (.seq .leaf (.seq .leaf (.seq .leaf .leaf))))) .leaf)))
noncomputable def JbP : Code := QA (Try.f71.body.get!) [1, 1, 1, 1, 0, 1, 0, 0]
def XI : Nm := [(2, .any), (4, .any), (7, .any), (100, .any)]
def YC : Nm := [(4, .any), (7, .any)]
def Jem : An := (.seq .leaf (.seq (.cond .leaf .leaf) (.seq (.block none (.seq .leaf .leaf)) .leaf)))
def Jp1 (r0 : Wg) (r1 : Wg) : An := (.seq .leaf (.seq .leaf (.seq .leaf (.seq (.seq .leaf (.block none (.sum XH N71 r0))) (.seq (.seq .leaf (.block none (.sum XI N71 r1))) (.seq .leaf .leaf))))))
def Vl (f : Nat) (rc : Int → List PV → List PV → List PV → List PV → List PV → Option Res) (k0 : List PV → List PV → List PV → Option Res) (v0 : Int) (v1 : List PV) (v2 : List PV) (v3 : List PV) (v4 : List PV) (v5 : List PV) : Option Res := bif decide (v0 < 64) then bif PV.isInt IntKind.u32 (Jm (PV.ar 113 v5) [4]) && true then bif PV.isInt IntKind.u32 (Jm (PV.ar 113 v5) [0]) && true then bif PV.isInt IntKind.u32 (Jm (PV.ar 113 v5) [7]) && true then bif PV.isInt IntKind.u32 (Jm (PV.ar 113 v5) [5]) && true then bif PV.isInt IntKind.u32 (Jm (PV.ar 113 v5) [6]) && true then bif decide (0 ≤ v0) && decide (v0 < zi 64) && true then bif PV.isInt IntKind.u32 (Jm (PV.ar 118 v4) [v0.toNat]) && true then bif decide (0 ≤ v0) && decide (v0 < zi 64) && true then bif PV.isInt IntKind.u32 (Jm (PV.ar 118 v3) [v0.toNat]) && true then bif PV.isInt IntKind.u32 (Jm (PV.ar 113 v5) [1]) && true then bif PV.isInt IntKind.u32 (Jm (PV.ar 113 v5) [2]) && true then bif PV.isInt IntKind.u32 (Jm (PV.ar 113 v5) [1]) && true then bif PV.isInt IntKind.u32 (Jm (PV.ar 113 v5) [2]) && true then bif PV.isInt IntKind.u32 (Jm (PV.ar 113 v5) [0]) && true then bif PV.isInt IntKind.u32 (Jm (PV.ar 113 v5) [1]) && true then bif PV.isInt IntKind.u32 (Jm (PV.ar 113 v5) [2]) && true then bif PV.isInt IntKind.u32 (Jm (PV.ar 113 v5) [3]) && true then bif PV.isInt IntKind.u32 (Jm (PV.ar 113 v5) [4]) && true then bif PV.isInt IntKind.u32 (Jm (PV.ar 113 v5) [5]) && true then bif PV.isInt IntKind.u32 (Jm (PV.ar 113 v5) [6]) && true then rc (IntKind.i64.wrap (v0 + 1)) v1 v2 v3 v4 ([.sc (.int .u32 (IntKind.u32.wrap (IntKind.u32.wrap (IntKind.u32.wrap (IntKind.u32.wrap (IntKind.u32.wrap ((Jm (PV.ar 113 v5) [7]).int + JC BinOp.xor IntKind.u32 (JC BinOp.xor IntKind.u32 (rr (Jm (PV.ar 113 v5) [4]).int 6) (rr (Jm (PV.ar 113 v5) [4]).int 11)) (rr (Jm (PV.ar 113 v5) [4]).int 25)) + JC BinOp.xor IntKind.u32 (JC BinOp.and IntKind.u32 (Jm (PV.ar 113 v5) [4]).int (Jm (PV.ar 113 v5) [5]).int) (JC BinOp.and IntKind.u32 (JC BinOp.xor IntKind.u32 (Int.ofNat (2 ^ IntKind.u32.bits - Nat.succ 0)) (Jm (PV.ar 113 v5) [4]).int) (Jm (PV.ar 113 v5) [6]).int)) + (Jm (PV.ar 118 v4) [v0.toNat]).int) + (Jm (PV.ar 118 v3) [v0.toNat]).int) + IntKind.u32.wrap (JC BinOp.xor IntKind.u32 (JC BinOp.xor IntKind.u32 (rr (Jm (PV.ar 113 v5) [0]).int 2) (rr (Jm (PV.ar 113 v5) [0]).int 13)) (rr (Jm (PV.ar 113 v5) [0]).int 22) + JC BinOp.xor IntKind.u32 (JC BinOp.xor IntKind.u32 (JC BinOp.and IntKind.u32 (Jm (PV.ar 113 v5) [0]).int (Jm (PV.ar 113 v5) [1]).int) (JC BinOp.and IntKind.u32 (Jm (PV.ar 113 v5) [0]).int (Jm (PV.ar 113 v5) [2]).int)) (JC BinOp.and IntKind.u32 (Jm (PV.ar 113 v5) [1]).int (Jm (PV.ar 113 v5) [2]).int))))), .sc (.int .u32 (Jm (PV.ar 113 v5) [0]).int), .sc (.int .u32 (Jm (PV.ar 113 v5) [1]).int), .sc (.int .u32 (Jm (PV.ar 113 v5) [2]).int), .sc (.int .u32 (IntKind.u32.wrap ((Jm (PV.ar 113 v5) [3]).int + IntKind.u32.wrap (IntKind.u32.wrap (IntKind.u32.wrap (IntKind.u32.wrap ((Jm (PV.ar 113 v5) [7]).int + JC BinOp.xor IntKind.u32 (JC BinOp.xor IntKind.u32 (rr (Jm (PV.ar 113 v5) [4]).int 6) (rr (Jm (PV.ar 113 v5) [4]).int 11)) (rr (Jm (PV.ar 113 v5) [4]).int 25)) + JC BinOp.xor IntKind.u32 (JC BinOp.and IntKind.u32 (Jm (PV.ar 113 v5) [4]).int (Jm (PV.ar 113 v5) [5]).int) (JC BinOp.and IntKind.u32 (JC BinOp.xor IntKind.u32 (Int.ofNat (2 ^ IntKind.u32.bits - Nat.succ 0)) (Jm (PV.ar 113 v5) [4]).int) (Jm (PV.ar 113 v5) [6]).int)) + (Jm (PV.ar 118 v4) [v0.toNat]).int) + (Jm (PV.ar 118 v3) [v0.toNat]).int)))), .sc (.int .u32 (Jm (PV.ar 113 v5) [4]).int), .sc (.int .u32 (Jm (PV.ar 113 v5) [5]).int), .sc (.int .u32 (Jm (PV.ar 113 v5) [6]).int)]) else none else none else none else none else none else none else none else none else none else none else none else none else none else none else none else none else none else none else none else none else k0 v1 v2 v5
def YD (f : Nat) (k0 : List PV → List PV → List PV → Option Res) : Nat → Int → List PV → List PV → List PV → List PV → List PV → Option Res
  | 0, _, _, _, _, _, _ => none
  | n + 1, v0, v1, v2, v3, v4, v5 => Vl f (YD f k0 n) k0 v0 v1 v2 v3 v4 v5
theorem JlW (f : Nat) (k : Kont) (n : Nat) (v0 : Int) (v1 : List PV) (v2 : List PV) (v3 : List PV) (v4 : List PV) (v5 : List PV) : Jo tau 0 XH (fun s k => ev tau F71 0 0 JbO (Jel ) s k) (n + 1) (Jd XH N71 [.ptr 1824 [], .ptr 1825 [], .ptr 1826 [], .ptr 1827 [], .ptr 1828 [], .sc (.int .i64 v0)] [(1824, .box false 113 (PV.ar 113 v1)), (1825, .box false 113 (PV.ar 113 v2)), (1826, .box false 118 (PV.ar 118 v3)), (1827, .box false 118 (PV.ar 118 v4)), (1828, .box false 113 (PV.ar 113 v5))]) (Jy tau 0 YB k) = Vl f (fun v0 v1 v2 v3 v4 v5 => Jo tau 0 XH (fun s k => ev tau F71 0 0 JbO (Jel ) s k) n (Jd XH N71 [.ptr 1824 [], .ptr 1825 [], .ptr 1826 [], .ptr 1827 [], .ptr 1828 [], .sc (.int .i64 v0)] [(1824, .box false 113 (PV.ar 113 v1)), (1825, .box false 113 (PV.ar 113 v2)), (1826, .box false 118 (PV.ar 118 v3)), (1827, .box false 118 (PV.ar 118 v4)), (1828, .box false 113 (PV.ar 113 v5))]) (Jy tau 0 YB k)) (fun x0 x1 x2 => k (Ex.exit 0) (Jd YB N71 [.ptr 1824 [], .ptr 1825 [], .ptr 1826 []] [(1824, .box false 113 (PV.ar 113 x0)), (1825, .box false 113 (PV.ar 113 x1)), (1826, .box false 113 (PV.ar 113 x2))])) v0 v1 v2 v3 v4 v5 := by kernel_rfl
theorem Jg8 (f : Nat) (k : Kont) : ∀ (n : Nat) (v0 : Int) (v1 : List PV) (v2 : List PV) (v3 : List PV) (v4 : List PV) (v5 : List PV), Jo tau 0 XH (fun s k => ev tau F71 0 0 JbO (Jel ) s k) n (Jd XH N71 [.ptr 1824 [], .ptr 1825 [], .ptr 1826 [], .ptr 1827 [], .ptr 1828 [], .sc (.int .i64 v0)] [(1824, .box false 113 (PV.ar 113 v1)), (1825, .box false 113 (PV.ar 113 v2)), (1826, .box false 118 (PV.ar 118 v3)), (1827, .box false 118 (PV.ar 118 v4)), (1828, .box false 113 (PV.ar 113 v5))]) (Jy tau 0 YB k) = YD f (fun x0 x1 x2 => k (Ex.exit 0) (Jd YB N71 [.ptr 1824 [], .ptr 1825 [], .ptr 1826 []] [(1824, .box false 113 (PV.ar 113 x0)), (1825, .box false 113 (PV.ar 113 x1)), (1826, .box false 113 (PV.ar 113 x2))])) n v0 v1 v2 v3 v4 v5 | 0, _, _, _, _, _, _ => rfl | n + 1, v0, v1, v2, v3, v4, v5 => (JlW f k n v0 v1 v2 v3 v4 v5).trans (congrArg (fun r => Vl f r (fun x0 x1 x2 => k (Ex.exit 0) (Jd YB N71 [.ptr 1824 [], .ptr 1825 [], .ptr 1826 []] [(1824, .box false 113 (PV.ar 113 x0)), (1825, .box false 113 (PV.ar 113 x1)), (1826, .box false 113 (PV.ar 113 x2))])) v0 v1 v2 v3 v4 v5) (by funext v0 v1 v2 v3 v4 v5; exact Jg8 f k n v0 v1 v2 v3 v4 v5))
def JbQ (f : Nat) : List PV → List (Nat × Ent) → Kont → Option Res
  | [.ptr 1824 [], .ptr 1825 [], .ptr 1826 [], .ptr 1827 [], .ptr 1828 [],
  PV.sc
    (Value.int IntKind.i64
      v0)], [(1824, .box false 113 (PV.ar 113 v1)), (1825, .box false 113 (PV.ar 113 v2)), (1826, .box false 118 (PV.ar 118 v3)), (1827, .box false 118 (PV.ar 118 v4)),
  (1828,
    Ent.box false 113
      (PV.ar 113
        v5))], k => YD f (fun x0 x1 x2 => k (Ex.exit
  0) (Jd YB N71 [.ptr 1824 [], .ptr 1825 [],
  PV.ptr 1826 []] [(1824, .box false 113 (PV.ar 113 x0)), (1825, .box false 113 (PV.ar 113 x1)), (1826, .box false 113 (PV.ar 113 x2))])) f v0 v1 v2 v3 v4 v5
  | _, _, _ => none
theorem Jp2 (f : Nat) : Jg JbO Jel = [] := by kernel_rfl
theorem Jtk (f : Nat) : (Item.l JbO XH N71 (JbQ f)).Ok tau Try.prog 0 := JJ Jr JfP Js (x := Jel) (nm2 := YB) (Jp _ _ (by rw [Jp2 f]; intro q hq; cases hq)) fun vs hp k res hr => by
  unfold JbQ at hr
  split at hr
  · exact ⟨f, 0, (Jg8 f _ f _ _ _ _ _ _ ).trans hr⟩
  · cases hr
def Vm (f : Nat) (rc : Int → List PV → List PV → List PV → Option Res) (k0 : List PV → List PV → Option Res) (v0 : Int) (v1 : List PV) (v2 : List PV) (v3 : List PV) : Option Res := bif decide (v0 < 8) then bif decide (0 ≤ v0) && decide (v0 < zi 8) && true then bif PV.isInt IntKind.u32 (Jm (PV.ar 113 v3) [v0.toNat]) && true then bif decide (0 ≤ v0) && decide (v0 < zi 8) && true then bif PV.isInt IntKind.u32 (Jm (PV.ar 113 v1) [v0.toNat]) && true then bif decide (0 ≤ v0) && decide (v0 < zi 8) && true then rc (IntKind.i64.wrap (v0 + 1)) v1 v2 (v3.set v0.toNat (.sc (.int .u32 (IntKind.u32.wrap ((Jm (PV.ar 113 v3) [v0.toNat]).int + (Jm (PV.ar 113 v1) [v0.toNat]).int))))) else none else none else none else none else none else k0 v2 v3
def YE (f : Nat) (k0 : List PV → List PV → Option Res) : Nat → Int → List PV → List PV → List PV → Option Res
  | 0, _, _, _, _ => none
  | n + 1, v0, v1, v2, v3 => Vm f (YE f k0 n) k0 v0 v1 v2 v3
theorem JlX (f : Nat) (k : Kont) (n : Nat) (v0 : Int) (v1 : List PV) (v2 : List PV) (v3 : List PV) : Jo tau 0 XI (fun s k => ev tau F71 0 0 JbP (Jem ) s k) (n + 1) (Jd XI N71 [.ptr 1824 [], .ptr 1825 [], .ptr 1826 [], .sc (.int .i64 v0)] [(1824, .box false 113 (PV.ar 113 v1)), (1825, .box false 113 (PV.ar 113 v2)), (1826, .box false 113 (PV.ar 113 v3))]) (Jy tau 0 YC k) = Vm f (fun v0 v1 v2 v3 => Jo tau 0 XI (fun s k => ev tau F71 0 0 JbP (Jem ) s k) n (Jd XI N71 [.ptr 1824 [], .ptr 1825 [], .ptr 1826 [], .sc (.int .i64 v0)] [(1824, .box false 113 (PV.ar 113 v1)), (1825, .box false 113 (PV.ar 113 v2)), (1826, .box false 113 (PV.ar 113 v3))]) (Jy tau 0 YC k)) (fun x0 x1 => k (Ex.exit 2) (Jd YC N71 [.ptr 1824 [], .ptr 1825 []] [(1824, .box false 113 (PV.ar 113 x0)), (1825, .box false 113 (PV.ar 113 x1))])) v0 v1 v2 v3 := by kernel_rfl
theorem Jg9 (f : Nat) (k : Kont) : ∀ (n : Nat) (v0 : Int) (v1 : List PV) (v2 : List PV) (v3 : List PV), Jo tau 0 XI (fun s k => ev tau F71 0 0 JbP (Jem ) s k) n (Jd XI N71 [.ptr 1824 [], .ptr 1825 [], .ptr 1826 [], .sc (.int .i64 v0)] [(1824, .box false 113 (PV.ar 113 v1)), (1825, .box false 113 (PV.ar 113 v2)), (1826, .box false 113 (PV.ar 113 v3))]) (Jy tau 0 YC k) = YE f (fun x0 x1 => k (Ex.exit 2) (Jd YC N71 [.ptr 1824 [], .ptr 1825 []] [(1824, .box false 113 (PV.ar 113 x0)), (1825, .box false 113 (PV.ar 113 x1))])) n v0 v1 v2 v3 | 0, _, _, _, _ => rfl | n + 1, v0, v1, v2, v3 => (JlX f k n v0 v1 v2 v3).trans (congrArg (fun r => Vm f r (fun x0 x1 => k (Ex.exit 2) (Jd YC N71 [.ptr 1824 [], .ptr 1825 []] [(1824, .box false 113 (PV.ar 113 x0)), (1825, .box false 113 (PV.ar 113 x1))])) v0 v1 v2 v3) (by funext v0 v1 v2 v3; exact Jg9 f k n v0 v1 v2 v3))
def JbR (f : Nat) : List PV → List (Nat × Ent) → Kont → Option Res
  | [.ptr 1824 [], .ptr 1825 [], .ptr 1826 [],
  PV.sc
    (Value.int IntKind.i64
      v0)], [(1824, .box false 113 (PV.ar 113 v1)), (1825, .box false 113 (PV.ar 113 v2)),
  (1826,
    Ent.box false 113
      (PV.ar 113
        v3))], k => YE f (fun x0 x1 => k (Ex.exit
  2) (Jd YC N71 [.ptr 1824 [], .ptr 1825 []] [(1824, .box false 113 (PV.ar 113 x0)), (1825, .box false 113 (PV.ar 113 x1))])) f v0 v1 v2 v3
  | _, _, _ => none
theorem Jp3 (f : Nat) : Jg JbP Jem = [] := by kernel_rfl
theorem Jtl (f : Nat) : (Item.l JbP XI N71 (JbR f)).Ok tau Try.prog 0 := JJ Jr JfP Js (x := Jem) (nm2 := YC) (Jp _ _ (by rw [Jp3 f]; intro q hq; cases hq)) fun vs hp k res hr => by
  unfold JbR at hr
  split at hr
  · exact ⟨f, 0, (Jg9 f _ f _ _ _ _ ).trans hr⟩
  · cases hr
def g71 (f : Nat) (s : List PV) (nl : Bool) (fl : Bool) (b : List PV) (k : Res → Option Res) : Option Res := bif Jf IntKind.u8 b && decide (b.length = 64) then YD f (fun x0_0 x1_0 x2_0 => YE f (fun x0_1 x1_1 => k (Res.mk (.ar 113 x1_1) [] [])) f (0) x0_0 x1_0 x2_0) f (0) s ([.sc (.int .u32 0), .sc (.int .u32 0), .sc (.int .u32 0), .sc (.int .u32 0), .sc (.int .u32 0), .sc (.int .u32 0), .sc (.int .u32 0), .sc (.int .u32 0)]) (pu IntKind.u32 (J8 (Je b))) ([.sc (.int .u32 1116352408), .sc (.int .u32 1899447441), .sc (.int .u32 3049323471), .sc (.int .u32 3921009573), .sc (.int .u32 961987163), .sc (.int .u32 1508970993), .sc (.int .u32 2453635748), .sc (.int .u32 2870763221), .sc (.int .u32 3624381080), .sc (.int .u32 310598401), .sc (.int .u32 607225278), .sc (.int .u32 1426881987), .sc (.int .u32 1925078388), .sc (.int .u32 2162078206), .sc (.int .u32 2614888103), .sc (.int .u32 3248222580), .sc (.int .u32 3835390401), .sc (.int .u32 4022224774), .sc (.int .u32 264347078), .sc (.int .u32 604807628), .sc (.int .u32 770255983), .sc (.int .u32 1249150122), .sc (.int .u32 1555081692), .sc (.int .u32 1996064986), .sc (.int .u32 2554220882), .sc (.int .u32 2821834349), .sc (.int .u32 2952996808), .sc (.int .u32 3210313671), .sc (.int .u32 3336571891), .sc (.int .u32 3584528711), .sc (.int .u32 113926993), .sc (.int .u32 338241895), .sc (.int .u32 666307205), .sc (.int .u32 773529912), .sc (.int .u32 1294757372), .sc (.int .u32 1396182291), .sc (.int .u32 1695183700), .sc (.int .u32 1986661051), .sc (.int .u32 2177026350), .sc (.int .u32 2456956037), .sc (.int .u32 2730485921), .sc (.int .u32 2820302411), .sc (.int .u32 3259730800), .sc (.int .u32 3345764771), .sc (.int .u32 3516065817), .sc (.int .u32 3600352804), .sc (.int .u32 4094571909), .sc (.int .u32 275423344), .sc (.int .u32 430227734), .sc (.int .u32 506948616), .sc (.int .u32 659060556), .sc (.int .u32 883997877), .sc (.int .u32 958139571), .sc (.int .u32 1322822218), .sc (.int .u32 1537002063), .sc (.int .u32 1747873779), .sc (.int .u32 1955562222), .sc (.int .u32 2024104815), .sc (.int .u32 2227730452), .sc (.int .u32 2361852424), .sc (.int .u32 2428436474), .sc (.int .u32 2756734187), .sc (.int .u32 3204031479), .sc (.int .u32 3329325298)]) s else none
theorem e71 (f : Nat) (s : List PV) (nl : Bool) (fl : Bool) (b : List PV) (k : Res → Option Res) : JR tau F71 Try.f71 (Try.f71.body.get!) (Jp1 (JbQ f) (JbR f)) [] 0 [.ar 113 s, .ro 5 nl fl b] [] k = g71 f s nl fl b k := by kernel_rfl
theorem Jxq (f : Nat) : Jg (Try.f71.body.get!) (Jp1 (JbQ f) (JbR f)) = [.l JbO XH N71 (JbQ f), .l JbP XI N71 (JbR f)] := by kernel_rfl
theorem Jxr (f : Nat) : ∀ q ∈ Jg (Try.f71.body.get!) (Jp1 (JbQ f) (JbR f)), q.Ok tau Try.prog 0 := by
  rw [Jxq f]; simp only [List.forall_mem_cons, List.not_mem_nil, false_implies, implies_true, and_true]; exact ⟨Jtk f, Jtl f⟩
theorem Jtm : Try.prog.funcs[71]? = some Try.f71 := by kernel_rfl
theorem Jtn : Try.f71.body = some (Try.f71.body.get!) := by kernel_rfl
theorem Jxs : Enters Try.prog 71 := enters_of Jtm (by kernel_rfl) Jtn
-- FN (sha.state).add
theorem YF {R : List Int} (h : R.length = 8) (j : Nat) (hj : j < 8) : (pu .u32 R).getD j .top = .sc (.int .u32 (R.getD j 0)) := Ys (by omega)
theorem Jn5 (W s : List Int) (hW : W.length = 64) (hs : s.length = 8) (f : Nat) (k0 : List PV → List PV → List PV → Option Res) (a b : List PV) : ∀ (d i n : Nat), i + d = 64 → d < n →
    YD f k0 n (i : Int) a b (pu .u32 W) (pu .u32 kks) (pu .u32 (Yz W s i)) = k0 a b (pu .u32 (Yz W s 64))
  | 0, i, n + 1, h, hn => by
      obtain rfl : i = 64 := by omega
      simp only [YD, Vl]
      exact JL (by decide)
  | d + 1, i, n + 1, h, hn => by
      have hl := W0 W s hs i
      have h1 : IntKind.i64.wrap ((i : Int) + 1) = ((i + 1 : Nat) : Int) := by rw [wrap_i64 (by omega) (by omega)]; omega
      have hk : (pu .u32 kks).getD i .top = .sc (.int .u32 (kks.getD i 0)) := Ys (by show i < 64; omega)
      have hw : (pu .u32 W).getD i .top = .sc (.int .u32 (W.getD i 0)) := Ys (by omega)
      have c1 : decide ((i : Int) < 64) = true := by simp; omega
      have c2 : decide (0 ≤ (i : Int)) = true := by simp
      have c3 : decide ((i : Int) < zi 64) = true := by simp; omega
      simp only [YD, Vl, Wp, Int.toNat_natCast, h1, hk, hw, c1, c2, c3, YF hl 0 (by omega), YF hl 1 (by omega), YF hl 2 (by omega), YF hl 3 (by omega), YF hl 4 (by omega), YF hl 5 (by omega), YF hl 6 (by omega), YF hl 7 (by omega), PV.isInt, PV.int, decide_true, Bool.and_true, cond_true]
      exact Jn5 W s hW hs f k0 a b d (i + 1) n (by omega) (by omega)
theorem Jn6 (t s : List Int) (ht : t.length = 8) (hs : s.length = 8) (f : Nat) (k0 : List PV → List PV → Option Res) (a : List PV) : ∀ (d i n : Nat), i + d = 8 → d < n →
    YE f k0 n (i : Int) (pu .u32 s) a (pu .u32 (Qp (fun j => ww (t.getD j 0 + s.getD j 0)) t i)) = k0 a (pu .u32 (Qp (fun j => ww (t.getD j 0 + s.getD j 0)) t 8))
  | 0, i, n + 1, h, hn => by
      obtain rfl : i = 8 := by omega
      simp only [YE, Vm]
      exact JL (by decide)
  | d + 1, i, n + 1, h, hn => by
      have hl : (Qp (fun j => ww (t.getD j 0 + s.getD j 0)) t i).length = 8 := by rw [XG _ _ _ (by omega), ht]
      have h1 : IntKind.i64.wrap ((i : Int) + 1) = ((i + 1 : Nat) : Int) := by rw [wrap_i64 (by omega) (by omega)]; omega
      have c1 : decide ((i : Int) < 8) = true := by simp; omega
      have c2 : decide (0 ≤ (i : Int)) = true := by simp
      have c3 : decide ((i : Int) < zi 8) = true := by simp; omega
      have g1 : ((i : Int)).toNat = i := by omega
      simp only [YE, Vm, Wp, g1, h1, c1, c2, c3, YF hl i (by omega), YF hs i (by omega), V6 _ t i (by omega), PV.isInt, PV.int, decide_true, Bool.and_true, cond_true, Wk]
      have := Jn6 t s ht hs f k0 a d (i + 1) n (by omega) (by omega)
      rw [← Ql _ t i (by omega)] at this
      exact this
theorem Jp4 (s bs : List Int) (hs : s.length = 8) (hb : bs.length = 64) (nl fl : Bool) (k : Res → Option Res) : g71 100 (pu .u32 s) nl fl (pu .u8 bs) k = k ⟨.ar 113 (pu .u32 (Jej s bs)), [], []⟩ := by
  have hW : (J8 bs).length = 64 := JU bs 48
  have hc : (Jf .u8 (pu .u8 bs) && decide ((pu .u8 bs).length = 64)) = true := by simp [hb]
  refine (Jb hc).trans ?_
  rw [Qf]
  have h0 : ∀ k0 a b, YD 100 k0 100 0 a b (pu .u32 (J8 bs)) (pu .u32 kks) (pu .u32 s) = k0 a b (pu .u32 (Yz (J8 bs) s 64)) := fun k0 a b => Jn5 (J8 bs) s hW hs 100 k0 a b 64 0 100 (by omega) (by omega)
  have ht := W0 (J8 bs) s hs 64
  have h1 : ∀ k0 a, YE 100 k0 100 0 (pu .u32 s) a (pu .u32 (Yz (J8 bs) s 64)) = k0 a (pu .u32 (Jej s bs)) := by
    intro k0 a
    have := Jn6 (Yz (J8 bs) s 64) s ht hs 100 k0 a 8 0 100 (by omega) (by omega)
    rw [Qw] at this
    refine this.trans ?_
    have h2 := QL (fun j => ww ((Yz (J8 bs) s 64).getD j 0 + s.getD j 0)) (Yz (J8 bs) s 64)
    rw [ht] at h2; rw [h2]; rfl
  exact (h0 _ _ _).trans (h1 _ _)
def JfQ : List PV → List Ent → (Res → Option Res) → Option Res
  | [.ar 113 s, .ro 5 nl fl b], [], k => bif (Jf .u32 s && decide (s.length = 8)) && (Jf .u8 b && decide (b.length = 64)) then k ⟨.ar 113 (pu .u32 (Jej (Je s) (Je b))), [], []⟩ else none
  | _, _, _ => none
def Jto : Sig := { own := [], run := JfQ }
theorem Jtp : Ji tau Try.prog 71 Jto := J3 Jr JfP Js Jtm Jtn _ [] 0 [] JfQ (Jxr 100) fun xs es k res hr => by
  unfold JfQ at hr
  split at hr
  · obtain ⟨hc, hr⟩ := JI hr
    simp only [Bool.and_eq_true, decide_eq_true_eq] at hc
    refine ⟨rfl, 0, (e71 100 _ _ _ _ _).trans ?_⟩
    rw [Qa hc.2.1, Qa hc.1.1, Jp4 _ _ (by simpa using hc.1.2) (by simpa using hc.2.2)]
    exact hr
  · cases hr
noncomputable def Jtq : Fns := F0
theorem JlY : Jz tau Try.prog Jtq := JH
def Jha : An := (.seq .leaf (.seq (.seq .leaf (.cond .leaf .leaf)) (.seq (.seq .leaf (.seq .leaf (.cond .leaf .leaf))) (.seq .leaf .leaf))))
noncomputable def Jtr (f : Nat) (n : Int) (k : Res → Option Res) : Option Res := bif decide (n < 0) then none else bif decide (IntKind.i64.wrap (n - IntKind.i64.wrap (zi 0 - zi 0)) > 0) then bif decide (0 ≤ IntKind.i64.wrap (n - IntKind.i64.wrap (zi 0 - zi 0))) && Jj (IntKind.i64.wrap (n - IntKind.i64.wrap (zi 0 - zi 0))).toNat 1 && true then k (Res.mk (.ow 5 16 [] 0 0 none) [] [.vec false 5 (IntKind.i64.wrap (n - IntKind.i64.wrap (zi 0 - zi 0)) == 0) (List.replicate (IntKind.i64.wrap (n - IntKind.i64.wrap (zi 0 - zi 0))).toNat (.sc (.int .u8 0)))]) else none else k (Res.mk (.ro 5 true true []) [] [])
theorem Jxt (f : Nat) (n : Int) (k : Res → Option Res) : JR tau Jtq Try.f121 (Try.f121.body.get!) Jha [] 0 [.ro 5 true true [], .sc (.int .i64 n)] [] k = Jtr f n k := by kernel_rfl
theorem Jts (f : Nat) : Jg (Try.f121.body.get!) Jha = [] := by kernel_rfl
theorem Jtt (f : Nat) : ∀ q ∈ Jg (Try.f121.body.get!) Jha, q.Ok tau Try.prog 0 := by
  rw [Jts f]; intro q hq; cases hq
theorem Jn7 : Try.prog.funcs[121]? = some Try.f121 := by kernel_rfl
theorem Jn8 : Try.f121.body = some (Try.f121.body.get!) := by kernel_rfl
theorem Jtu : Enters Try.prog 121 := enters_of Jn7 (by kernel_rfl) Jn8
noncomputable def JfR : List PV → List Ent → (Res → Option Res) → Option Res
  | [.ro 5 true true [], .sc (.int .i64 n)], [], k => Jtr 0 n k
  | _, _, _ => none
noncomputable def Jtv : Sig := { own := [], run := JfR }
theorem Jtw : Ji tau Try.prog 121 Jtv := J3 Jr JlY Js Jn7 Jn8 Jha [] 0 [] JfR (Jtt 0) fun xs es k res hr => by
  unfold JfR at hr
  split at hr
  · exact ⟨rfl, 0, (Jxt 0 _  _).trans hr⟩
  · cases hr
def N70 : Nat := 36
noncomputable def F70 : Fns := JG 121 Jtv (F0)
theorem JfS : Jz tau Try.prog F70 := (JH).add Jtw Jtu
noncomputable def JbS : Code := QA (Try.f70.body.get!) [1, 1, 0, 1, 0, 0]
def XJ : Nm := [(0, .any), (3, .any), (9, .any), (10, .any), (11, .any)]
def YG : Nm := [(0, .any), (3, .any)]
def Jen : An := (.seq .leaf (.seq (.cond .leaf .leaf) (.seq (.block none (.seq .leaf (.seq .leaf (.seq .leaf (.cond .leaf .leaf))))) .leaf)))
noncomputable def JbT : Code := QA (Try.f70.body.get!) [1, 1, 1, 1, 0, 1, 0, 0]
def XK : Nm := [(6, .own), (25, .any), (26, .any), (27, .any)]
def YH : Nm := [(6, .any)]
def Jeo : An := (.seq .leaf (.seq (.cond .leaf .leaf) (.seq (.block none (.seq .leaf .leaf)) .leaf)))
def JlZ (r0 : Wg) (r1 : Wg) : An := (.seq .leaf (.seq .leaf (.seq (.seq .leaf (.block none (.sum XJ N70 r0))) (.seq .leaf (.seq (.seq .leaf (.block none (.sum XK N70 r1))) (.seq .leaf .leaf))))))
noncomputable def Vn (f : Nat) (rc : Bool → Bool → List PV → Int → Bool → Bool → List PV → Int → Int → Option Res) (k0 : Bool → Bool → List PV → Int → Option Res) (v0 : Bool) (v1 : Bool) (v2 : List PV) (v3 : Int) (v4 : Bool) (v5 : Bool) (v6 : List PV) (v7 : Int) (v8 : Int) : Option Res := bif decide (v8 < v7) then bif decide (0 ≤ v8) && decide (v8 < zi v6.length) && PV.isRo 5 (v6.getD v8.toNat PV.top) && true then bif decide (IntKind.i64.wrap (v3 + zi (v6.getD v8.toNat PV.top).els.length) < 0) then none else rc v0 v1 v2 (IntKind.i64.wrap (v3 + zi (v6.getD v8.toNat PV.top).els.length)) v4 v5 v6 v7 (IntKind.i64.wrap (v8 + 1)) else none else k0 v0 v1 v2 v3
noncomputable def ZL (f : Nat) (k0 : Bool → Bool → List PV → Int → Option Res) : Nat → Bool → Bool → List PV → Int → Bool → Bool → List PV → Int → Int → Option Res
  | 0, _, _, _, _, _, _, _, _, _ => none
  | n + 1, v0, v1, v2, v3, v4, v5, v6, v7, v8 => Vn f (ZL f k0 n) k0 v0 v1 v2 v3 v4 v5 v6 v7 v8
theorem Jl0 (f : Nat) (k : Kont) (n : Nat) (v0 : Bool) (v1 : Bool) (v2 : List PV) (v3 : Int) (v4 : Bool) (v5 : Bool) (v6 : List PV) (v7 : Int) (v8 : Int) : Jo tau 0 XJ (fun s k => ev tau F70 0 0 JbS (Jen ) s k) (n + 1) (Jd XJ N70 [.ro 29 v0 v1 v2, .sc (.int .i64 v3), .ro 29 v4 v5 v6, .sc (.int .i64 v7), .sc (.int .i64 v8)] []) (Jy tau 0 YG k) = Vn f (fun v0 v1 v2 v3 v4 v5 v6 v7 v8 => Jo tau 0 XJ (fun s k => ev tau F70 0 0 JbS (Jen ) s k) n (Jd XJ N70 [.ro 29 v0 v1 v2, .sc (.int .i64 v3), .ro 29 v4 v5 v6, .sc (.int .i64 v7), .sc (.int .i64 v8)] []) (Jy tau 0 YG k)) (fun x0 x1 x2 x3 => k (Ex.exit 0) (Jd YG N70 [.ro 29 x0 x1 x2, .sc (.int .i64 x3)] [])) v0 v1 v2 v3 v4 v5 v6 v7 v8 := by kernel_rfl
theorem Jhb (f : Nat) (k : Kont) : ∀ (n : Nat) (v0 : Bool) (v1 : Bool) (v2 : List PV) (v3 : Int) (v4 : Bool) (v5 : Bool) (v6 : List PV) (v7 : Int) (v8 : Int), Jo tau 0 XJ (fun s k => ev tau F70 0 0 JbS (Jen ) s k) n (Jd XJ N70 [.ro 29 v0 v1 v2, .sc (.int .i64 v3), .ro 29 v4 v5 v6, .sc (.int .i64 v7), .sc (.int .i64 v8)] []) (Jy tau 0 YG k) = ZL f (fun x0 x1 x2 x3 => k (Ex.exit 0) (Jd YG N70 [.ro 29 x0 x1 x2, .sc (.int .i64 x3)] [])) n v0 v1 v2 v3 v4 v5 v6 v7 v8 | 0, _, _, _, _, _, _, _, _, _ => rfl | n + 1, v0, v1, v2, v3, v4, v5, v6, v7, v8 => (Jl0 f k n v0 v1 v2 v3 v4 v5 v6 v7 v8).trans (congrArg (fun r => Vn f r (fun x0 x1 x2 x3 => k (Ex.exit 0) (Jd YG N70 [.ro 29 x0 x1 x2, .sc (.int .i64 x3)] [])) v0 v1 v2 v3 v4 v5 v6 v7 v8) (by funext v0 v1 v2 v3 v4 v5 v6 v7 v8; exact Jhb f k n v0 v1 v2 v3 v4 v5 v6 v7 v8))
noncomputable def JaG (f : Nat) : List PV → List (Nat × Ent) → Kont → Option Res
  | [.ro 29 v0 v1 v2, .sc (.int .i64 v3), .ro 29 v4 v5 v6, .sc (.int .i64 v7),
  .sc (.int .i64 v8)], [], k => ZL f (fun x0 x1 x2 x3 => k (Ex.exit 0) (Jd YG N70 [.ro 29 x0 x1 x2, .sc (.int .i64 x3)] [])) f v0 v1 v2 v3 v4 v5 v6 v7 v8
  | _, _, _ => none
theorem Jp5 (f : Nat) : Jg JbS Jen = [] := by kernel_rfl
theorem Jtx (f : Nat) : (Item.l JbS XJ N70 (JaG f)).Ok tau Try.prog 0 := JJ Jr JfS Js (x := Jen) (nm2 := YG) (Jp _ _ (by rw [Jp5 f]; intro q hq; cases hq)) fun vs hp k res hr => by
  unfold JaG at hr
  split at hr
  · exact ⟨f, 0, (Jhb f _ f _ _ _ _ _ _ _ _ _ ).trans hr⟩
  · cases hr
noncomputable def Vo (f : Nat) (rc : Nat → Bool → Bool → List PV → Int → Int → Bool → List PV → Option Res) (k0 : Nat → Bool → List PV → Option Res) (v0 : Nat) (v1 : Bool) (v2 : Bool) (v3 : List PV) (v4 : Int) (v5 : Int) (v6 : Bool) (v7 : List PV) : Option Res := bif decide (v5 < v4) then bif decide (0 ≤ v5) && decide (v5 < zi v3.length) && PV.isRo 5 (v3.getD v5.toNat PV.top) && true then bif Jj (v0 + (v3.getD v5.toNat PV.top).els.length) 1 && true then rc (v0 + (v3.getD v5.toNat PV.top).els.length) v1 v2 v3 v4 (IntKind.i64.wrap (v5 + 1)) (v6 && (v3.getD v5.toNat PV.top).els.isEmpty) (List.take v0 v7 ++ (v3.getD v5.toNat PV.top).els) else none else none else k0 v0 v6 v7
noncomputable def Xd (f : Nat) (k0 : Nat → Bool → List PV → Option Res) : Nat → Nat → Bool → Bool → List PV → Int → Int → Bool → List PV → Option Res
  | 0, _, _, _, _, _, _, _, _ => none
  | n + 1, v0, v1, v2, v3, v4, v5, v6, v7 => Vo f (Xd f k0 n) k0 v0 v1 v2 v3 v4 v5 v6 v7
theorem Jl1 (f : Nat) (k : Kont) (n : Nat) (v0 : Nat) (v1 : Bool) (v2 : Bool) (v3 : List PV) (v4 : Int) (v5 : Int) (v6 : Bool) (v7 : List PV) : Jo tau 0 XK (fun s k => ev tau F70 0 0 JbT (Jeo ) s k) (n + 1) (Jd XK N70 [.ow 5 592 [] 0 v0 none, .ro 29 v1 v2 v3, .sc (.int .i64 v4), .sc (.int .i64 v5)] [(592, .vec false 5 v6 v7)]) (Jy tau 0 YH k) = Vo f (fun v0 v1 v2 v3 v4 v5 v6 v7 => Jo tau 0 XK (fun s k => ev tau F70 0 0 JbT (Jeo ) s k) n (Jd XK N70 [.ow 5 592 [] 0 v0 none, .ro 29 v1 v2 v3, .sc (.int .i64 v4), .sc (.int .i64 v5)] [(592, .vec false 5 v6 v7)]) (Jy tau 0 YH k)) (fun x0 x1 x2 => k (Ex.exit 2) (Jd YH N70 [.ow 5 592 [] 0 x0 none] [(592, .vec false 5 x1 x2)])) v0 v1 v2 v3 v4 v5 v6 v7 := by kernel_rfl
theorem Jhc (f : Nat) (k : Kont) : ∀ (n : Nat) (v0 : Nat) (v1 : Bool) (v2 : Bool) (v3 : List PV) (v4 : Int) (v5 : Int) (v6 : Bool) (v7 : List PV), Jo tau 0 XK (fun s k => ev tau F70 0 0 JbT (Jeo ) s k) n (Jd XK N70 [.ow 5 592 [] 0 v0 none, .ro 29 v1 v2 v3, .sc (.int .i64 v4), .sc (.int .i64 v5)] [(592, .vec false 5 v6 v7)]) (Jy tau 0 YH k) = Xd f (fun x0 x1 x2 => k (Ex.exit 2) (Jd YH N70 [.ow 5 592 [] 0 x0 none] [(592, .vec false 5 x1 x2)])) n v0 v1 v2 v3 v4 v5 v6 v7 | 0, _, _, _, _, _, _, _, _ => rfl | n + 1, v0, v1, v2, v3, v4, v5, v6, v7 => (Jl1 f k n v0 v1 v2 v3 v4 v5 v6 v7).trans (congrArg (fun r => Vo f r (fun x0 x1 x2 => k (Ex.exit 2) (Jd YH N70 [.ow 5 592 [] 0 x0 none] [(592, .vec false 5 x1 x2)])) v0 v1 v2 v3 v4 v5 v6 v7) (by funext v0 v1 v2 v3 v4 v5 v6 v7; exact Jhc f k n v0 v1 v2 v3 v4 v5 v6 v7))
noncomputable def JaH (f : Nat) : List PV → List (Nat × Ent) → Kont → Option Res
  | [.ow 5 592 [] 0 v0 none, .ro 29 v1 v2 v3, .sc (.int .i64 v4),
  PV.sc
    (Value.int IntKind.i64
      v5)], [(592, .vec false 5 v6 v7)], k => Xd f (fun x0 x1 x2 => k (Ex.exit 2) (Jd YH N70 [.ow 5 592 [] 0 x0 none] [(592, .vec false 5 x1 x2)])) f v0 v1 v2 v3 v4 v5 v6 v7
  | _, _, _ => none
theorem Jp6 (f : Nat) : Jg JbT Jeo = [] := by kernel_rfl
theorem Jty (f : Nat) : (Item.l JbT XK N70 (JaH f)).Ok tau Try.prog 0 := JJ Jr JfS Js (x := Jeo) (nm2 := YH) (Jp _ _ (by rw [Jp6 f]; intro q hq; cases hq)) fun vs hp k res hr => by
  unfold JaH at hr
  split at hr
  · exact ⟨f, 0, (Jhc f _ f _ _ _ _ _ _ _ _ ).trans hr⟩
  · cases hr
noncomputable def g70 (f : Nat) (slices_z : Bool) (slices_f : Bool) (slices : List PV) (k : Res → Option Res) : Option Res := ZL f (fun x0_0 x1_0 x2_0 x3_0 => bif decide (x3_0 < 0) then none else bif decide (IntKind.i64.wrap (x3_0 - IntKind.i64.wrap (zi 0 - zi 0)) > 0) then bif decide (0 ≤ IntKind.i64.wrap (x3_0 - IntKind.i64.wrap (zi 0 - zi 0))) && Jj (IntKind.i64.wrap (x3_0 - IntKind.i64.wrap (zi 0 - zi 0))).toNat 1 && true then Xd f (fun x0_1 x1_1 x2_1 => k (Res.mk (.ow 5 16 [] 0 x0_1 none) [] [.vec false 5 x1_1 x2_1])) f (0) x0_0 x1_0 x2_0 (zi x2_0.length) (0) (IntKind.i64.wrap (x3_0 - IntKind.i64.wrap (zi 0 - zi 0)) == 0) (List.replicate (IntKind.i64.wrap (x3_0 - IntKind.i64.wrap (zi 0 - zi 0))).toNat (.sc (.int .u8 0))) else none else Xd f (fun x0_2 x1_2 x2_2 => k (Res.mk (.ow 5 16 [] 0 x0_2 none) [] [.vec false 5 x1_2 x2_2])) f (0) x0_0 x1_0 x2_0 (zi x2_0.length) (0) true ([])) f slices_z slices_f slices (0) slices_z slices_f slices (zi slices.length) (0)
theorem e70 (f : Nat) (slices_z : Bool) (slices_f : Bool) (slices : List PV) (k : Res → Option Res) : JR tau F70 Try.f70 (Try.f70.body.get!) (JlZ (JaG f) (JaH f)) [] 0 [.ro 29 slices_z slices_f slices] [] k = g70 f slices_z slices_f slices k := by kernel_rfl
theorem Jxu (f : Nat) : Jg (Try.f70.body.get!) (JlZ (JaG f) (JaH f)) = [.l JbS XJ N70 (JaG f), .l JbT XK N70 (JaH f)] := by kernel_rfl
theorem Jxv (f : Nat) : ∀ q ∈ Jg (Try.f70.body.get!) (JlZ (JaG f) (JaH f)), q.Ok tau Try.prog 0 := by
  rw [Jxu f]; simp only [List.forall_mem_cons, List.not_mem_nil, false_implies, implies_true, and_true]; exact ⟨Jtx f, Jty f⟩
theorem Jtz : Try.prog.funcs[70]? = some Try.f70 := by kernel_rfl
theorem JtA : Try.f70.body = some (Try.f70.body.get!) := by kernel_rfl
theorem Jp7 : Enters Try.prog 70 := enters_of Jtz (by kernel_rfl) JtA
-- FN slices.Concat[[]byte,byte]
def Jk (l : List PV) : List PV := (l.map PV.els).flatten
@[simp] theorem JjH : Jk [] = [] := rfl
@[simp] theorem Zi (p : PV) (l : List PV) : Jk (p :: l) = p.els ++ Jk l := by simp [Jk]
theorem GE (a b : List PV) : Jk (a ++ b) = Jk a ++ Jk b := by simp [Jk]
theorem JaI (l : List PV) (i : Nat) (h : i < l.length) : l.take (i + 1) = l.take i ++ [l.getD i .top] := by
  rw [List.take_add_one, List.getD_eq_getElem?_getD, List.getElem?_eq_getElem h]; rfl
theorem JfT (l : List PV) (i : Nat) (h : i < l.length) : l.drop i = l.getD i .top :: l.drop (i + 1) := by
  rw [List.drop_eq_getElem_cons h, List.getD_eq_getElem?_getD, List.getElem?_eq_getElem h]; rfl
theorem V9 (l : List PV) (i : Nat) (h : i < l.length) : Jk (l.take (i + 1)) = Jk (l.take i) ++ (l.getD i .top).els := by
  rw [JaI l i h, GE, Zi, JjH, List.append_nil]
theorem Vp (l : List PV) (i : Nat) : (Jk (l.take i)).length ≤ (Jk l).length := by
  have : Jk l = Jk (l.take i) ++ Jk (l.drop i) := by rw [← GE, List.take_append_drop]
  rw [this, List.length_append]; omega
theorem JbU {l : List PV} (h : l.all (PV.isRo 5) = true) {i : Nat} (hi : i < l.length) : (l.getD i .top).isRo 5 = true := by
  rw [List.getD_eq_getElem?_getD, List.getElem?_eq_getElem hi]
  exact List.all_eq_true.1 h _ (List.getElem_mem hi)
theorem Jep {α : Type} (a b : List α) : (a ++ b).isEmpty = (a.isEmpty && b.isEmpty) := by cases a <;> rfl
theorem Jn9 (f : Nat) (k0 : Bool → Bool → List PV → Int → Option Res) (a b : Bool) (c : List PV) (nl fl : Bool) (l : List PV) (hl : l.all (PV.isRo 5) = true) (hs : (Jk l).length ≤ 140737488355328) (hn : l.length ≤ 140737488355328) : ∀ (d i n : Nat), i + d = l.length → d < n →
    ZL f k0 n a b c ((Jk (l.take i)).length : Int) nl fl l (l.length : Int) (i : Int) = k0 a b c ((Jk l).length : Int)
  | 0, i, n + 1, h, hd => by
      obtain rfl : i = l.length := by omega
      simp only [ZL, Vn]
      exact (JL (by simp)).trans (by rw [List.take_length])
  | d + 1, i, n + 1, h, hd => by
      have hle := Vp l (i + 1)
      have hadd : (Jk (l.take (i + 1))).length = (Jk (l.take i)).length + (l.getD i .top).els.length := by rw [V9 l i (by omega), List.length_append]
      have h1 : IntKind.i64.wrap ((i : Int) + 1) = ((i + 1 : Nat) : Int) := by rw [wrap_i64 (by omega) (by omega)]; omega
      have h2 : IntKind.i64.wrap (((Jk (l.take i)).length : Int) + ((l.getD i .top).els.length : Int)) = ((Jk (l.take (i + 1))).length : Int) := by rw [wrap_i64 (by omega) (by omega)]; omega
      simp only [ZL, Vn, zi, Int.toNat_natCast, h1, h2]
      refine (Jb (by simp <;> omega)).trans ?_
      refine (Jb (by rw [JbU hl (by omega)]; simp; omega)).trans ?_
      refine (JL (by simp <;> omega)).trans ?_
      exact Jn9 f k0 a b c nl fl l hl hs hn d (i + 1) n (by omega) (by omega)
theorem JjI (f : Nat) (k0 : Nat → Bool → List PV → Option Res) (nl fl : Bool) (l : List PV) (hl : l.all (PV.isRo 5) = true) (hs : (Jk l).length ≤ 140737488355328) (hn : l.length ≤ 140737488355328) : ∀ (d i n : Nat) (z : Bool) (v : List PV), i + d = l.length → d < n → v.take (Jk (l.take i)).length = Jk (l.take i) → (d = 0 → v = Jk l) →
    Xd f k0 n (Jk (l.take i)).length nl fl l (l.length : Int) (i : Int) z v = k0 (Jk l).length (z && (Jk (l.drop i)).isEmpty) (Jk l)
  | 0, i, n + 1, z, v, h, hd, hv, h0 => by
      obtain rfl : i = l.length := by omega
      simp only [Xd, Vo]
      refine (JL (by simp)).trans ?_
      rw [List.take_length, h0 rfl, List.drop_length]; simp
  | d + 1, i, n + 1, z, v, h, hd, hv, h0 => by
      have hle := Vp l (i + 1)
      have hadd : (Jk (l.take (i + 1))).length = (Jk (l.take i)).length + (l.getD i .top).els.length := by rw [V9 l i (by omega), List.length_append]
      have h1 : IntKind.i64.wrap ((i : Int) + 1) = ((i + 1 : Nat) : Int) := by rw [wrap_i64 (by omega) (by omega)]; omega
      simp only [Xd, Vo, zi, Int.toNat_natCast, h1, hv]
      refine (Jb (by simp <;> omega)).trans ?_
      refine (Jb (by rw [JbU hl (by omega)]; simp; omega)).trans ?_
      refine (Jb (by simp only [Jj, Bool.and_true, decide_eq_true_eq]; omega)).trans ?_
      have := JjI f k0 nl fl l hl hs hn d (i + 1) n (z && (l.getD i .top).els.isEmpty) (Jk (l.take (i + 1))) (by omega) (by omega) (List.take_length) (fun hd0 => by rw [show i + 1 = l.length from by omega, List.take_length])
      rw [hadd, V9 l i (by omega)] at this
      rw [this, JfT l i (by omega), Zi, Jep, Bool.and_assoc]
def JfU : List PV → List Ent → (Res → Option Res) → Option Res
  | [.ro 29 nl fl l], [], k => bif l.all (PV.isRo 5) && (decide ((Jk l).length ≤ 140737488355328) && decide (l.length ≤ 140737488355328)) then k ⟨.ow 5 16 [] 0 (Jk l).length none, [], [.vec false 5 (Jk l).isEmpty (Jk l)]⟩ else none
  | _, _, _ => none
def Jl2 : Sig := { own := [], run := JfU }
theorem Jp8 (nl fl : Bool) (l : List PV) (k : Res → Option Res) (hl : l.all (PV.isRo 5) = true) (hs : (Jk l).length ≤ 140737488355328) (hn : l.length ≤ 140737488355328) :
    g70 (l.length + 1) nl fl l k = k ⟨.ow 5 16 [] 0 (Jk l).length none, [], [.vec false 5 (Jk l).isEmpty (Jk l)]⟩ := by
  have h0 := Jn9 (l.length + 1) (fun x0_0 x1_0 x2_0 x3_0 =>
    bif decide (x3_0 < 0) then
      none
    else bif decide (IntKind.i64.wrap (x3_0 - IntKind.i64.wrap (zi 0 - zi 0)) > 0) then
      bif decide (0 ≤ IntKind.i64.wrap (x3_0 - IntKind.i64.wrap (zi 0 - zi 0))) && Jj (IntKind.i64.wrap (x3_0 - IntKind.i64.wrap (zi 0 - zi 0))).toNat 1 && true then
        Xd (l.length + 1) (fun x0_1 x1_1 x2_1 =>
          k (Res.mk (PV.ow 5 16 [] 0 x0_1 none) []
            [Ent.vec false 5 x1_1
                x2_1])) (l.length + 1) (0) x0_0 x1_0 x2_0 (zi
          x2_0.length) (0) (IntKind.i64.wrap (x3_0 - IntKind.i64.wrap (zi 0 - zi 0)) ==
          0) (List.replicate (IntKind.i64.wrap (x3_0 - IntKind.i64.wrap (zi 0 - zi 0))).toNat (PV.sc (Value.int IntKind.u8 0)))
      else none
    else Xd (l.length + 1) (fun x0_2 x1_2 x2_2 =>
      k (Res.mk (PV.ow 5 16 [] 0 x0_2 none) [] [Ent.vec false 5 x1_2 x2_2])) (l.length + 1) (0) x0_0 x1_0 x2_0 (zi x2_0.length) (0) true ([])) nl fl l nl fl l hl hs hn l.length 0 (l.length + 1) (by omega) (by omega)
  refine h0.trans ?_
  have hw : IntKind.i64.wrap (((Jk l).length : Int) - IntKind.i64.wrap (zi 0 - zi 0)) = ((Jk l).length : Int) := by
    have : IntKind.i64.wrap (zi 0 - zi 0) = 0 := by decide
    rw [this, wrap_i64 (by omega) (by omega)]; omega
  simp only [hw]
  refine (JL (by simp <;> omega)).trans ?_
  cases he : (Jk l).isEmpty with
  | true =>
    have he' : Jk l = [] := by simpa using he
    refine (JL (by simp [he'])).trans ?_
    have := JjI (l.length + 1) (fun x0_2 x1_2 x2_2 => k (Res.mk (PV.ow 5 16 [] 0 x0_2 none) [] [Ent.vec false 5 x1_2 x2_2])) nl fl l hl hs hn l.length 0 (l.length + 1) true [] (by omega) (by omega) (by simp) (fun _ => he'.symm)
    refine this.trans ?_
    simp [he']
  | false =>
    have he' : Jk l ≠ [] := by simpa using he
    have hpos : 0 < (Jk l).length := List.length_pos_iff.2 he'
    have hl0 : l.length ≠ 0 := by
      intro h; rw [List.length_eq_zero_iff] at h; subst h; simp at he'
    refine (Jb (by simp <;> omega)).trans ?_
    refine (Jb (by simp [Jj] <;> omega)).trans ?_
    have := JjI (l.length + 1) (fun x0_2 x1_2 x2_2 => k (Res.mk (PV.ow 5 16 [] 0 x0_2 none) [] [Ent.vec false 5 x1_2 x2_2])) nl fl l hl hs hn l.length 0 (l.length + 1) (((Jk l).length : Int) == 0) (List.replicate (((Jk l).length : Int)).toNat (PV.sc (Value.int IntKind.u8 0))) (by omega) (by omega) (by simp) (fun h => absurd h hl0)
    refine this.trans ?_
    have hz : (((Jk l).length : Int) == 0) = false := by simp [he']
    rw [hz]; rfl
theorem JjJ : Ji tau Try.prog 70 Jl2 := JfB Jr JfS Js Jtz JtA (fun n => JlZ (JaG n) (JaH n)) [] 0 [] JfU (fun n => Jxv n) fun xs es k res hr => by
  unfold JfU at hr
  split at hr
  · rename_i nl fl l
    obtain ⟨hc, hr⟩ := JI hr
    simp only [Bool.and_eq_true, decide_eq_true_eq] at hc
    refine ⟨rfl, l.length + 1, 0, (e70 _ _ _ _ _).trans ?_⟩
    rw [Jp8 _ _ _ _ hc.1 hc.2.1 hc.2.2]; exact hr
  · cases hr
def N69 : Nat := 33
noncomputable def F69 : Fns := F0
theorem JfV : Jz tau Try.prog F69 := JH
noncomputable def JaJ : Code := QA (Try.f69.body.get!) [1, 0, 1, 1, 1, 1, 0, 1, 0, 0]
def Xe : Nm := [(0, .any), (3, .any), (19, .any)]
def YI : Nm := [(0, .any)]
def Jeq : An := (.seq .leaf (.seq (.cond .leaf .leaf) (.seq (.block none (.seq .leaf .leaf)) .leaf)))
noncomputable def Vq : Code := QA (Try.f69.body.get!) [1, 0]
def XL : Nm := [(0, .any), (3, .any)]
def YJ : Nm := [(2, .any)]
def JbV (r1 : Wg) : An := (.seq .leaf (.seq .leaf (.seq .leaf (.seq (.seq .leaf (.cond (.seq .leaf .leaf) .leaf)) (.seq (.seq .leaf (.block none (.sum Xe N69 r1))) (.seq .leaf .leaf))))))
def Jp9 (r0 : Jsa) (r1 : Wg) : An := (.seq .leaf (.ssum XL N69 (JbV r1) r0))
noncomputable def Vr (f : Nat) (rc : Nat → Int → Int → Bool → List PV → Option Res) (k0 : Nat → Bool → List PV → Option Res) (v0 : Nat) (v1 : Int) (v2 : Int) (v3 : Bool) (v4 : List PV) : Option Res := bif decide (v2 < 8) then bif decide (0 ≤ IntKind.i64.wrap (56 - IntKind.i64.wrap (8 * v2))) && true then bif Jj (v0 + 1) 1 && true then rc (v0 + 1) v1 (IntKind.i64.wrap (v2 + 1)) (v3 && false) (List.take v0 v4 ++ [.sc (.int .u8 (IntKind.u8.wrap (Jx IntKind.u64 v1 (IntKind.i64.wrap (56 - IntKind.i64.wrap (8 * v2))))))]) else none else none else k0 v0 v3 v4
noncomputable def Xf (f : Nat) (k0 : Nat → Bool → List PV → Option Res) : Nat → Nat → Int → Int → Bool → List PV → Option Res
  | 0, _, _, _, _, _ => none
  | n + 1, v0, v1, v2, v3, v4 => Vr f (Xf f k0 n) k0 v0 v1 v2 v3 v4
theorem Jl3 (f : Nat) (k : Kont) (n : Nat) (v0 : Nat) (v1 : Int) (v2 : Int) (v3 : Bool) (v4 : List PV) : Jo tau 1 Xe (fun s k => ev tau F69 1 0 JaJ (Jeq ) s k) (n + 1) (Jd Xe N69 [.ow 5 545 [] 0 v0 none, .sc (.int .u64 v1), .sc (.int .i64 v2)] [(0, .dead), (545, .vec false 5 v3 v4)]) (Jy tau 1 YI k) = Vr f (fun v0 v1 v2 v3 v4 => Jo tau 1 Xe (fun s k => ev tau F69 1 0 JaJ (Jeq ) s k) n (Jd Xe N69 [.ow 5 545 [] 0 v0 none, .sc (.int .u64 v1), .sc (.int .i64 v2)] [(0, .dead), (545, .vec false 5 v3 v4)]) (Jy tau 1 YI k)) (fun x0 x1 x2 => k (Ex.exit 0) (Jd YI N69 [.ow 5 545 [] 0 x0 none] [(0, .dead), (545, .vec false 5 x1 x2)])) v0 v1 v2 v3 v4 := by kernel_rfl
theorem Jhd (f : Nat) (k : Kont) : ∀ (n : Nat) (v0 : Nat) (v1 : Int) (v2 : Int) (v3 : Bool) (v4 : List PV), Jo tau 1 Xe (fun s k => ev tau F69 1 0 JaJ (Jeq ) s k) n (Jd Xe N69 [.ow 5 545 [] 0 v0 none, .sc (.int .u64 v1), .sc (.int .i64 v2)] [(0, .dead), (545, .vec false 5 v3 v4)]) (Jy tau 1 YI k) = Xf f (fun x0 x1 x2 => k (Ex.exit 0) (Jd YI N69 [.ow 5 545 [] 0 x0 none] [(0, .dead), (545, .vec false 5 x1 x2)])) n v0 v1 v2 v3 v4 | 0, _, _, _, _, _ => rfl | n + 1, v0, v1, v2, v3, v4 => (Jl3 f k n v0 v1 v2 v3 v4).trans (congrArg (fun r => Vr f r (fun x0 x1 x2 => k (Ex.exit 0) (Jd YI N69 [.ow 5 545 [] 0 x0 none] [(0, .dead), (545, .vec false 5 x1 x2)])) v0 v1 v2 v3 v4) (by funext v0 v1 v2 v3 v4; exact Jhd f k n v0 v1 v2 v3 v4))
noncomputable def Yc (f : Nat) : List PV → List (Nat × Ent) → Kont → Option Res
  | [.ow 5 545 [] 0 v0 none, .sc (.int .u64 v1),
  PV.sc
    (Value.int IntKind.i64
      v2)], [(0, .dead),
  (545, .vec false 5 v3 v4)], k => Xf f (fun x0 x1 x2 => k (Ex.exit 0) (Jd YI N69 [.ow 5 545 [] 0 x0 none] [(0, .dead), (545, .vec false 5 x1 x2)])) f v0 v1 v2 v3 v4
  | _, _, _ => none
theorem Jqa (f : Nat) : Jg JaJ Jeq = [] := by kernel_rfl
theorem Joa (f : Nat) : (Item.l JaJ Xe N69 (Yc f)).Ok tau Try.prog 1 := JJ Jr JfV Js (x := Jeq) (nm2 := YI) (Jp _ _ (by rw [Jqa f]; intro q hq; cases hq)) fun vs hp k res hr => by
  unfold Yc at hr
  split at hr
  · exact ⟨f, 0, (Jhd f _ f _ _ _ _ _ ).trans hr⟩
  · cases hr
noncomputable def Vs (f : Nat) (rc : Nat → Int → Bool → List PV → Option Res) (k0 : Nat → Bool → List PV → Option Res) (v0 : Nat) (v1 : Int) (v2 : Bool) (v3 : List PV) : Option Res := bif (zi v0).tmod 64 != 56 then bif Jj (v0 + 1) 1 && true then rc (v0 + 1) v1 (v2 && false) (List.take v0 v3 ++ [.sc (.int .u8 0)]) else none else Xf f (fun x0_0 x1_0 x2_0 => k0 x0_0 x1_0 x2_0) f v0 v1 (0) v2 v3
noncomputable def ZM (f : Nat) (k0 : Nat → Bool → List PV → Option Res) : Nat → Nat → Int → Bool → List PV → Option Res
  | 0, _, _, _, _ => none
  | n + 1, v0, v1, v2, v3 => Vs f (ZM f k0 n) k0 v0 v1 v2 v3
theorem Jl4 (f : Nat) (k : Kont) (n : Nat) (v0 : Nat) (v1 : Int) (v2 : Bool) (v3 : List PV) : QH tau 1 XL (hasLabel Vq) (fun l s k => J5 tau F69 1 0 Vq (JbV (Yc f)) l s k) (n + 1) 0 (Jd XL N69 [.ow 5 545 [] 0 v0 none, .sc (.int .u64 v1)] [(0, .dead), (545, .vec false 5 v2 v3)]) (Jy tau 1 YJ k) = Vs f (fun v0 v1 v2 v3 => QH tau 1 XL (hasLabel Vq) (fun l s k => J5 tau F69 1 0 Vq (JbV (Yc f)) l s k) n 0 (Jd XL N69 [.ow 5 545 [] 0 v0 none, .sc (.int .u64 v1)] [(0, .dead), (545, .vec false 5 v2 v3)]) (Jy tau 1 YJ k)) (fun x0 x1 x2 => k Ex.ret (Jd YJ N69 [.ow 5 545 [] 0 x0 none] [(0, .dead), (545, .vec false 5 x1 x2)])) v0 v1 v2 v3 := by kernel_rfl
theorem Jhe (f : Nat) (k : Kont) : ∀ (n : Nat) (v0 : Nat) (v1 : Int) (v2 : Bool) (v3 : List PV), QH tau 1 XL (hasLabel Vq) (fun l s k => J5 tau F69 1 0 Vq (JbV (Yc f)) l s k) n 0 (Jd XL N69 [.ow 5 545 [] 0 v0 none, .sc (.int .u64 v1)] [(0, .dead), (545, .vec false 5 v2 v3)]) (Jy tau 1 YJ k) = ZM f (fun x0 x1 x2 => k Ex.ret (Jd YJ N69 [.ow 5 545 [] 0 x0 none] [(0, .dead), (545, .vec false 5 x1 x2)])) n v0 v1 v2 v3 | 0, _, _, _, _ => rfl | n + 1, v0, v1, v2, v3 => (Jl4 f k n v0 v1 v2 v3).trans (congrArg (fun r => Vs f r (fun x0 x1 x2 => k Ex.ret (Jd YJ N69 [.ow 5 545 [] 0 x0 none] [(0, .dead), (545, .vec false 5 x1 x2)])) v0 v1 v2 v3) (by funext v0 v1 v2 v3; exact Jhe f k n v0 v1 v2 v3))
noncomputable def JbW (f : Nat) : Nat → List PV → List (Nat × Ent) → Kont → Option Res
  | 0, [.ow 5 545 [] 0 v0 none,
  PV.sc
    (Value.int IntKind.u64
      v1)], [(0, .dead),
  (545, .vec false 5 v2 v3)], k => ZM f (fun x0 x1 x2 => k Ex.ret (Jd YJ N69 [.ow 5 545 [] 0 x0 none] [(0, .dead), (545, .vec false 5 x1 x2)])) f v0 v1 v2 v3
  | _, _, _, _ => none
theorem Jqb (f : Nat) : Jg Vq (JbV (Yc f)) = [.l JaJ Xe N69 (Yc f)] := by kernel_rfl
theorem JtB (f : Nat) : (Item.s Vq XL N69 (JbW f)).Ok tau Try.prog 1 := JaA Jr JfV Js (x := (JbV (Yc f))) (nm2 := YJ) (Jp _ _ (by rw [Jqb f]; simp only [List.forall_mem_cons, List.not_mem_nil, false_implies, implies_true, and_true]; exact Joa f)) fun l vs hp k res hr => by
  unfold JbW at hr
  split at hr
  · exact ⟨f, 0, (Jhe f _ f _ _ _ _ ).trans hr⟩
  · cases hr
noncomputable def g69 (f : Nat) (nl : Bool) (l : List PV) (n : Nat) (k : Res → Option Res) : Option Res := bif Jj (n + 1) 1 && true then bif (zi (n + 1)).tmod 64 != 56 then bif Jj (n + 1 + 1) 1 && true then ZM f (fun x0_1 x1_1 x2_1 => k (Res.mk (.ow 5 16 [] 0 x0_1 none) [.dead] [.vec false 5 x1_1 x2_1])) f (n + 1 + 1) (IntKind.u64.wrap (IntKind.u64.wrap (zi n) * 8)) (nl && false && false) (List.take (n + 1) (List.take n l ++ [.sc (.int .u8 128)]) ++ [.sc (.int .u8 0)]) else none else Xf f (fun x0_2 x1_2 x2_2 => k (Res.mk (.ow 5 16 [] 0 x0_2 none) [.dead] [.vec false 5 x1_2 x2_2])) f (n + 1) (IntKind.u64.wrap (IntKind.u64.wrap (zi n) * 8)) (0) (nl && false) (List.take n l ++ [.sc (.int .u8 128)]) else none
theorem e69 (f : Nat) (nl : Bool) (l : List PV) (n : Nat) (k : Res → Option Res) : JR tau F69 Try.f69 (Try.f69.body.get!) (Jp9 (JbW f) (Yc f)) [] 0 [.ow 5 0 [] 0 n none] [.vec false 5 nl l] k = g69 f nl l n k := by kernel_rfl
theorem Jxw (f : Nat) : Jg (Try.f69.body.get!) (Jp9 (JbW f) (Yc f)) = [.s Vq XL N69 (JbW f), .l JaJ Xe N69 (Yc f)] := by kernel_rfl
theorem Jxx (f : Nat) : ∀ q ∈ Jg (Try.f69.body.get!) (Jp9 (JbW f) (Yc f)), q.Ok tau Try.prog 1 := by
  rw [Jxw f]; simp only [List.forall_mem_cons, List.not_mem_nil, false_implies, implies_true, and_true]; exact ⟨JtB f, Joa f⟩
theorem JtC : Try.prog.funcs[69]? = some Try.f69 := by kernel_rfl
theorem JtD : Try.f69.body = some (Try.f69.body.get!) := by kernel_rfl
theorem Jxy : Enters Try.prog 69 := enters_of JtC (by kernel_rfl) JtD
-- FN sha.padded
def Jqc (n : Int) (i : Nat) : Int := IntKind.u8.wrap (Jx .u64 n (56 - 8 * (i : Int)))
theorem Job (f : Nat) (N : Int) (k0 : Nat → Bool → List PV → Option Res) (L : List Int) (hL : L.length ≤ 140737488355300) : ∀ (d i n : Nat) (z : Bool), i + d = 8 → d < n → (d = 0 → z = false) →
    Xf f k0 n (L.length + i) N (i : Int) z (pu .u8 (L ++ (List.range i).map (Jqc N))) = k0 (L.length + 8) false (pu .u8 (L ++ (List.range 8).map (Jqc N)))
  | 0, i, n + 1, z, h, hn, hz => by
      obtain rfl : i = 8 := by omega
      simp only [Xf, Vr]
      rw [hz rfl]
      exact JL (by decide)
  | d + 1, i, n + 1, z, h, hn, hz => by
      have h1 : IntKind.i64.wrap ((i : Int) + 1) = ((i + 1 : Nat) : Int) := by rw [wrap_i64 (by omega) (by omega)]; omega
      have h8 : IntKind.i64.wrap (8 * (i : Int)) = 8 * (i : Int) := wrap_i64 (by omega) (by omega)
      have h9 : IntKind.i64.wrap (56 - 8 * (i : Int)) = 56 - 8 * (i : Int) := wrap_i64 (by omega) (by omega)
      have c1 : decide ((i : Int) < 8) = true := by simp; omega
      have c2 : decide (0 ≤ 56 - 8 * (i : Int)) = true := by simp; omega
      have c3 : Jj (L.length + i + 1) 1 = true := by simp [Jj]; omega
      have hlen : (L ++ (List.range i).map (Jqc N)).length = L.length + i := by simp
      simp only [Xf, Vr, h1, h8, h9, c1, c2, c3, Bool.and_true, cond_true, WT, Bool.and_false]
      rw [List.take_of_length_le (by omega)]
      have := Job f N k0 L hL d (i + 1) n false (by omega) (by omega) (fun _ => rfl)
      rw [List.range_succ, List.map_append, ← List.append_assoc, JN] at this
      exact this
theorem Joc (f : Nat) (N : Int) (k0 : Nat → Bool → List PV → Option Res) (hf : 9 ≤ f) : ∀ (d n : Nat) (L : List Int) (z : Bool), zs L.length = d → d < n → L.length + d ≤ 140737488355200 →
    ZM f k0 n L.length N z (pu .u8 L) = Xf f k0 f (L.length + d) N 0 (z && decide (d = 0)) (pu .u8 (L ++ List.replicate d 0))
  | 0, n + 1, L, z, hd, hn, hL => by
      simp only [ZM, Vs, JaF]
      refine (JL (by simp [zs] at hd ⊢; omega)).trans ?_
      simp
  | d + 1, n + 1, L, z, hd, hn, hL => by
      have hlt : d + 1 < 64 := by rw [← hd]; unfold zs; omega
      have c3 : Jj (L.length + 1) 1 = true := by simp [Jj]; omega
      simp only [ZM, Vs, JaF, c3, Bool.and_true, cond_true, WT, Bool.and_false]
      refine (Jb (by simp [zs] at hd ⊢; omega)).trans ?_
      rw [List.take_of_length_le (Nat.le_refl _)]
      have := Joc f N k0 hf d n (L ++ [0]) false (by simp [zs] at hd ⊢; omega) (by omega) (by simp; omega)
      simp only [List.length_append, List.length_cons, List.length_nil, Nat.zero_add, JN] at this
      refine this.trans ?_
      rw [show L.length + 1 + d = L.length + (d + 1) from by omega, List.replicate_succ]
      simp
theorem Jqd (nl : Bool) (bs : List Int) (hb : bs.length ≤ 140737488355000) (k : Res → Option Res) : g69 100 nl (pu .u8 bs) bs.length k = k ⟨.ow 5 16 [] 0 (Qq bs).length none, [.dead], [.vec false 5 false (pu .u8 (Qq bs))]⟩ := by
  have c1 : (Jj (bs.length + 1) 1 && true) = true := by simp [Jj]; omega
  have c2 : (Jj (bs.length + 1 + 1) 1 && true) = true := by simp [Jj]; omega
  have hlen : (Qq bs).length = bs.length + 1 + zs (bs.length + 1) + 8 := by simp [Qq, JlQ]; omega
  have hz : zs (bs.length + 1) < 64 := by unfold zs; omega
  refine (Jb c1).trans ?_
  rw [JaF, WT, List.take_of_length_le (Nat.le_refl _)]
  have fin : ∀ z, Xf 100 (fun x0_2 x1_2 x2_2 => k (Res.mk (PV.ow 5 16 [] 0 x0_2 none) [Ent.dead] [Ent.vec false 5 x1_2 x2_2])) 100 (bs.length + 1 + zs (bs.length + 1)) (IntKind.u64.wrap (IntKind.u64.wrap (zi bs.length) * 8)) 0 z (pu .u8 (bs ++ [128] ++ List.replicate (zs (bs.length + 1)) 0)) = k ⟨.ow 5 16 [] 0 (Qq bs).length none, [.dead], [.vec false 5 false (pu .u8 (Qq bs))]⟩ := by
    intro z
    have := Job 100 (IntKind.u64.wrap (IntKind.u64.wrap (zi bs.length) * 8)) (fun x0_2 x1_2 x2_2 => k (Res.mk (PV.ow 5 16 [] 0 x0_2 none) [Ent.dead] [Ent.vec false 5 x1_2 x2_2])) (bs ++ [128] ++ List.replicate (zs (bs.length + 1)) 0) (by simp; omega) 8 0 100 z (by omega) (by omega) (by omega)
    have hl2 : (bs ++ [128] ++ List.replicate (zs (bs.length + 1)) 0).length = bs.length + 1 + zs (bs.length + 1) := by simp; omega
    rw [hl2] at this
    simp only [List.range_zero, List.map_nil, List.append_nil, Nat.add_zero] at this
    rw [hlen]
    exact this
  cases hc : (((((bs.length + 1) % 64 : Nat) : Int)) != 56) with
  | true =>
    refine (Jb rfl).trans ((Jb c2).trans ?_)
    have hc' : ((bs.length + 1) % 64 : Nat) ≠ 56 := by simp at hc; omega
    have hz1 : zs (bs.length + 1 + 1) + 1 = zs (bs.length + 1) := by unfold zs; omega
    have := Joc 100 (IntKind.u64.wrap (IntKind.u64.wrap (zi bs.length) * 8)) (fun x0_1 x1_1 x2_1 => k (Res.mk (PV.ow 5 16 [] 0 x0_1 none) [Ent.dead] [Ent.vec false 5 x1_1 x2_1])) (by omega) (zs (bs.length + 1 + 1)) 100 (bs ++ [128] ++ [0]) (nl && false && false) (by simp) (by unfold zs; omega) (by simp; omega)
    have h0 : pu .u8 (bs ++ [128] ++ [0]) = List.take (bs.length + 1) (pu .u8 bs ++ [PV.sc (Value.int IntKind.u8 128)]) ++ [PV.sc (Value.int IntKind.u8 0)] := by
      rw [List.take_of_length_le (by simp)]; simp
    rw [h0] at this
    simp only [List.length_append, List.length_cons, List.length_nil, Nat.zero_add] at this
    refine this.trans ?_
    have h3 : bs ++ [128] ++ [0] ++ List.replicate (zs (bs.length + 1 + 1)) 0 = bs ++ [128] ++ List.replicate (zs (bs.length + 1)) 0 := by
      rw [← hz1, List.replicate_succ]; simp
    rw [h3, show bs.length + 1 + 1 + zs (bs.length + 1 + 1) = bs.length + 1 + zs (bs.length + 1) from by omega]
    exact fin _
  | false =>
    refine (JL rfl).trans ?_
    have hc' : ((bs.length + 1) % 64 : Nat) = 56 := by simp at hc; omega
    have hz0 : zs (bs.length + 1) = 0 := by unfold zs; omega
    have := fin (nl && false)
    rw [hz0] at this
    simpa using this
def JfW : List PV → List Ent → (Res → Option Res) → Option Res
  | [.ow 5 0 [] 0 n none], [.vec false 5 nl l], k => bif Jf .u8 l && (decide (n = l.length) && decide (l.length ≤ 140737488355000)) then k ⟨.ow 5 16 [] 0 (Qq (Je l)).length none, [.dead], [.vec false 5 false (pu .u8 (Qq (Je l)))]⟩ else none
  | _, _, _ => none
def JtE : Sig := { own := [true], run := JfW }
theorem JtF : Ji tau Try.prog 69 JtE := J3 Jr JfV Js JtC JtD _ [] 1 [true] JfW (Jxx 100) fun xs es k res hr => by
  unfold JfW at hr
  split at hr
  · obtain ⟨hc, hr⟩ := JI hr
    simp only [Bool.and_eq_true, decide_eq_true_eq] at hc
    refine ⟨rfl, 0, (e69 100 _ _ _ _).trans ?_⟩
    rw [hc.2.1, Qa hc.1, JF, Jqd _ _ (by simpa using hc.2.2)]
    exact hr
  · cases hr
noncomputable def F68 : Fns := F0
theorem Jqe : Jz tau Try.prog F68 := JH
def Jl5 : An := (.seq .leaf (.seq .leaf .leaf))
noncomputable def g68 (f : Nat) (k : Res → Option Res) : Option Res := k (Res.mk (.ar 113 [.sc (.int .u32 1779033703), .sc (.int .u32 3144134277), .sc (.int .u32 1013904242), .sc (.int .u32 2773480762), .sc (.int .u32 1359893119), .sc (.int .u32 2600822924), .sc (.int .u32 528734635), .sc (.int .u32 1541459225)]) [] [])
theorem e68 (f : Nat) (k : Res → Option Res) : JR tau F68 Try.f68 (Try.f68.body.get!) Jl5 [.ro] 0 [] [] k = g68 f k := by kernel_rfl
theorem Jxz (f : Nat) : Jg (Try.f68.body.get!) Jl5 = [] := by kernel_rfl
theorem JxA (f : Nat) : ∀ q ∈ Jg (Try.f68.body.get!) Jl5, q.Ok tau Try.prog 0 := by
  rw [Jxz f]; intro q hq; cases hq
theorem JtG : Try.prog.funcs[68]? = some Try.f68 := by kernel_rfl
theorem JtH : Try.f68.body = some (Try.f68.body.get!) := by kernel_rfl
theorem JxB : Enters Try.prog 68 := enters_of JtG (by kernel_rfl) JtH
noncomputable def JjK : List PV → List Ent → (Res → Option Res) → Option Res
  | [], [], k => g68 0  k
  | _, _, _ => none
noncomputable def s68 : Sig := { own := [], run := JjK }
theorem JxC : Ji tau Try.prog 68 s68 := J3 Jr Jqe Js JtG JtH Jl5 [.ro] 0 [] JjK (JxA 0) fun xs es k res hr => by
  unfold JjK at hr
  split at hr
  · exact ⟨rfl, 0, (e68 0  _).trans hr⟩
  · cases hr
def N27 : Nat := 37
noncomputable def F27 : Fns := JG 68 s68 (JG 69 JtE (JG 70 Jl2 (JG 71 Jto F0)))
theorem JfX : Jz tau Try.prog F27 := (((JH.add Jtp Jxs).add JjJ Jp7).add JtF Jxy).add JxC JxB
noncomputable def JbX : Code := QA (Try.f27.body.get!) [1, 1, 0, 1, 0, 0]
def XM : Nm := [(2, .any), (3, .any), (4, .ro)]
def YK : Nm := [(2, .any), (3, .any)]
def Jer : An := (.seq (.seq .leaf (.cond .leaf .leaf)) (.seq (.block none .leaf) .leaf))
noncomputable def JbY : Code := QA (Try.f27.body.get!) [1, 1, 1, 1, 0, 1, 0, 0]
def XN : Nm := [(2, .any), (3, .any), (5, .any), (20, .any)]
def YL : Nm := [(2, .any), (5, .any)]
def Jes : An := (.seq .leaf (.seq (.cond .leaf .leaf) (.seq (.block none (.seq .leaf .leaf)) .leaf)))
def Jl6 (r0 : Wg) (r1 : Wg) : An := (.seq .leaf (.seq .leaf (.seq (.seq .leaf (.block none (.sum XM N27 r0))) (.seq .leaf (.seq (.seq .leaf (.block none (.sum XN N27 r1))) (.seq .leaf .leaf))))))
def Vt (f : Nat) (rc : List PV → List PV → List PV → Option Res) (k0 : List PV → List PV → Option Res) (v0 : List PV) (v1 : List PV) (v2 : List PV) : Option Res := bif decide (zi v0.length > 0) then bif decide (64 ≤ v0.length) && true then bif Jf IntKind.u32 v2 && decide (v2.length = 8) && (Jf IntKind.u8 (List.take 64 v0) && decide ((List.take 64 v0).length = 64)) then bif decide (64 ≤ v0.length) && decide (v0.length ≤ v0.length) && true then rc (List.drop 64 (List.take v0.length v0)) v1 (pu IntKind.u32 (Jej (Je v2) (Je (List.take 64 v0)))) else none else none else none else k0 v1 v2
def YM (f : Nat) (k0 : List PV → List PV → Option Res) : Nat → List PV → List PV → List PV → Option Res
  | 0, _, _, _ => none
  | n + 1, v0, v1, v2 => Vt f (YM f k0 n) k0 v0 v1 v2
theorem Jl7 (f : Nat) (k : Kont) (n : Nat) (v0 : List PV) (v1 : List PV) (v2 : List PV) : Jo tau 0 XM (fun s k => ev tau F27 0 0 JbX (Jer ) s k) (n + 1) (Jd XM N27 [.ptr 608 [], .ptr 609 [], .ro 5 false false v0] [(608, .box false 37 (PV.ar 37 v1)), (609, .box false 113 (PV.ar 113 v2))]) (Jy tau 0 YK k) = Vt f (fun v0 v1 v2 => Jo tau 0 XM (fun s k => ev tau F27 0 0 JbX (Jer ) s k) n (Jd XM N27 [.ptr 608 [], .ptr 609 [], .ro 5 false false v0] [(608, .box false 37 (PV.ar 37 v1)), (609, .box false 113 (PV.ar 113 v2))]) (Jy tau 0 YK k)) (fun x0 x1 => k (Ex.exit 0) (Jd YK N27 [.ptr 608 [], .ptr 609 []] [(608, .box false 37 (PV.ar 37 x0)), (609, .box false 113 (PV.ar 113 x1))])) v0 v1 v2 := by kernel_rfl
theorem Jhf (f : Nat) (k : Kont) : ∀ (n : Nat) (v0 : List PV) (v1 : List PV) (v2 : List PV), Jo tau 0 XM (fun s k => ev tau F27 0 0 JbX (Jer ) s k) n (Jd XM N27 [.ptr 608 [], .ptr 609 [], .ro 5 false false v0] [(608, .box false 37 (PV.ar 37 v1)), (609, .box false 113 (PV.ar 113 v2))]) (Jy tau 0 YK k) = YM f (fun x0 x1 => k (Ex.exit 0) (Jd YK N27 [.ptr 608 [], .ptr 609 []] [(608, .box false 37 (PV.ar 37 x0)), (609, .box false 113 (PV.ar 113 x1))])) n v0 v1 v2 | 0, _, _, _ => rfl | n + 1, v0, v1, v2 => (Jl7 f k n v0 v1 v2).trans (congrArg (fun r => Vt f r (fun x0 x1 => k (Ex.exit 0) (Jd YK N27 [.ptr 608 [], .ptr 609 []] [(608, .box false 37 (PV.ar 37 x0)), (609, .box false 113 (PV.ar 113 x1))])) v0 v1 v2) (by funext v0 v1 v2; exact Jhf f k n v0 v1 v2))
def JaK (f : Nat) : List PV → List (Nat × Ent) → Kont → Option Res
  | [.ptr 608 [], .ptr 609 [],
  PV.ro 5 false false
    v0], [(608, .box false 37 (PV.ar 37 v1)),
  (609,
    Ent.box false 113
      (PV.ar 113
        v2))], k => YM f (fun x0 x1 => k (Ex.exit 0) (Jd YK N27 [.ptr 608 [], .ptr 609 []] [(608, .box false 37 (PV.ar 37 x0)), (609, .box false 113 (PV.ar 113 x1))])) f v0 v1 v2
  | _, _, _ => none
theorem Jqf (f : Nat) : Jg JbX Jer = [] := by kernel_rfl
theorem JtI (f : Nat) : (Item.l JbX XM N27 (JaK f)).Ok tau Try.prog 0 := JJ Jr JfX Js (x := Jer) (nm2 := YK) (Jp _ _ (by rw [Jqf f]; intro q hq; cases hq)) fun vs hp k res hr => by
  unfold JaK at hr
  split at hr
  · exact ⟨f, 0, (Jhf f _ f _ _ _ ).trans hr⟩
  · cases hr
def Vu (f : Nat) (rc : Int → List PV → List PV → List PV → Option Res) (k0 : List PV → List PV → Option Res) (v0 : Int) (v1 : List PV) (v2 : List PV) (v3 : List PV) : Option Res := bif decide (v0 < 32) then bif decide (0 ≤ IntKind.i64.wrap (v0.tdiv 4)) && decide (IntKind.i64.wrap (v0.tdiv 4) < zi 8) && true then bif PV.isInt IntKind.u32 (Jm (PV.ar 113 v2) [(IntKind.i64.wrap (v0.tdiv 4)).toNat]) && true then bif decide (0 ≤ IntKind.i64.wrap (24 - IntKind.i64.wrap (8 * v0.tmod 4))) && true then bif decide (0 ≤ v0) && decide (v0 < zi 32) && true then rc (IntKind.i64.wrap (v0 + 1)) v1 v2 (v3.set v0.toNat (.sc (.int .u8 (IntKind.u8.wrap (Jx IntKind.u32 (Jm (PV.ar 113 v2) [(IntKind.i64.wrap (v0.tdiv 4)).toNat]).int (IntKind.i64.wrap (24 - IntKind.i64.wrap (8 * v0.tmod 4)))))))) else none else none else none else none else k0 v1 v3
def YN (f : Nat) (k0 : List PV → List PV → Option Res) : Nat → Int → List PV → List PV → List PV → Option Res
  | 0, _, _, _, _ => none
  | n + 1, v0, v1, v2, v3 => Vu f (YN f k0 n) k0 v0 v1 v2 v3
theorem Jl8 (f : Nat) (k : Kont) (n : Nat) (v0 : Int) (v1 : List PV) (v2 : List PV) (v3 : List PV) : Jo tau 0 XN (fun s k => ev tau F27 0 0 JbY (Jes ) s k) (n + 1) (Jd XN N27 [.ptr 608 [], .ptr 609 [], .ptr 610 [], .sc (.int .i64 v0)] [(608, .box false 37 (PV.ar 37 v1)), (609, .box false 113 (PV.ar 113 v2)), (610, .box false 37 (PV.ar 37 v3))]) (Jy tau 0 YL k) = Vu f (fun v0 v1 v2 v3 => Jo tau 0 XN (fun s k => ev tau F27 0 0 JbY (Jes ) s k) n (Jd XN N27 [.ptr 608 [], .ptr 609 [], .ptr 610 [], .sc (.int .i64 v0)] [(608, .box false 37 (PV.ar 37 v1)), (609, .box false 113 (PV.ar 113 v2)), (610, .box false 37 (PV.ar 37 v3))]) (Jy tau 0 YL k)) (fun x0 x1 => k (Ex.exit 2) (Jd YL N27 [.ptr 608 [], .ptr 609 []] [(608, .box false 37 (PV.ar 37 x0)), (609, .box false 37 (PV.ar 37 x1))])) v0 v1 v2 v3 := by kernel_rfl
theorem Jhg (f : Nat) (k : Kont) : ∀ (n : Nat) (v0 : Int) (v1 : List PV) (v2 : List PV) (v3 : List PV), Jo tau 0 XN (fun s k => ev tau F27 0 0 JbY (Jes ) s k) n (Jd XN N27 [.ptr 608 [], .ptr 609 [], .ptr 610 [], .sc (.int .i64 v0)] [(608, .box false 37 (PV.ar 37 v1)), (609, .box false 113 (PV.ar 113 v2)), (610, .box false 37 (PV.ar 37 v3))]) (Jy tau 0 YL k) = YN f (fun x0 x1 => k (Ex.exit 2) (Jd YL N27 [.ptr 608 [], .ptr 609 []] [(608, .box false 37 (PV.ar 37 x0)), (609, .box false 37 (PV.ar 37 x1))])) n v0 v1 v2 v3 | 0, _, _, _, _ => rfl | n + 1, v0, v1, v2, v3 => (Jl8 f k n v0 v1 v2 v3).trans (congrArg (fun r => Vu f r (fun x0 x1 => k (Ex.exit 2) (Jd YL N27 [.ptr 608 [], .ptr 609 []] [(608, .box false 37 (PV.ar 37 x0)), (609, .box false 37 (PV.ar 37 x1))])) v0 v1 v2 v3) (by funext v0 v1 v2 v3; exact Jhg f k n v0 v1 v2 v3))
def JaL (f : Nat) : List PV → List (Nat × Ent) → Kont → Option Res
  | [.ptr 608 [], .ptr 609 [], .ptr 610 [],
  PV.sc
    (Value.int IntKind.i64
      v0)], [(608, .box false 37 (PV.ar 37 v1)), (609, .box false 113 (PV.ar 113 v2)),
  (610,
    Ent.box false 37
      (PV.ar 37
        v3))], k => YN f (fun x0 x1 => k (Ex.exit 2) (Jd YL N27 [.ptr 608 [], .ptr 609 []] [(608, .box false 37 (PV.ar 37 x0)), (609, .box false 37 (PV.ar 37 x1))])) f v0 v1 v2 v3
  | _, _, _ => none
theorem Jqg (f : Nat) : Jg JbY Jes = [] := by kernel_rfl
theorem JtJ (f : Nat) : (Item.l JbY XN N27 (JaL f)).Ok tau Try.prog 0 := JJ Jr JfX Js (x := Jes) (nm2 := YL) (Jp _ _ (by rw [Jqg f]; intro q hq; cases hq)) fun vs hp k res hr => by
  unfold JaL at hr
  split at hr
  · exact ⟨f, 0, (Jhg f _ f _ _ _ _ ).trans hr⟩
  · cases hr
def g27 (f : Nat) (nl : Bool) (fl : Bool) (l : List PV) (k : Res → Option Res) : Option Res := bif l.all (PV.isRo 5) && (decide ((Jk l).length ≤ 140737488355328) && decide (l.length ≤ 140737488355328)) then bif Jf IntKind.u8 (Jk l) && (decide ((Jk l).length = (Jk l).length) && decide ((Jk l).length ≤ 140737488355000)) then YM f (fun x0_0 x1_0 => YN f (fun x0_1 x1_1 => k (Res.mk (.ar 37 x1_1) [] [])) f (0) x0_0 x1_0 ([.sc (.int .u8 0), .sc (.int .u8 0), .sc (.int .u8 0), .sc (.int .u8 0), .sc (.int .u8 0), .sc (.int .u8 0), .sc (.int .u8 0), .sc (.int .u8 0), .sc (.int .u8 0), .sc (.int .u8 0), .sc (.int .u8 0), .sc (.int .u8 0), .sc (.int .u8 0), .sc (.int .u8 0), .sc (.int .u8 0), .sc (.int .u8 0), .sc (.int .u8 0), .sc (.int .u8 0), .sc (.int .u8 0), .sc (.int .u8 0), .sc (.int .u8 0), .sc (.int .u8 0), .sc (.int .u8 0), .sc (.int .u8 0), .sc (.int .u8 0), .sc (.int .u8 0), .sc (.int .u8 0), .sc (.int .u8 0), .sc (.int .u8 0), .sc (.int .u8 0), .sc (.int .u8 0), .sc (.int .u8 0)])) f (List.take (Qq (Je (Jk l))).length (pu IntKind.u8 (Qq (Je (Jk l))))) ([.sc (.int .u8 0), .sc (.int .u8 0), .sc (.int .u8 0), .sc (.int .u8 0), .sc (.int .u8 0), .sc (.int .u8 0), .sc (.int .u8 0), .sc (.int .u8 0), .sc (.int .u8 0), .sc (.int .u8 0), .sc (.int .u8 0), .sc (.int .u8 0), .sc (.int .u8 0), .sc (.int .u8 0), .sc (.int .u8 0), .sc (.int .u8 0), .sc (.int .u8 0), .sc (.int .u8 0), .sc (.int .u8 0), .sc (.int .u8 0), .sc (.int .u8 0), .sc (.int .u8 0), .sc (.int .u8 0), .sc (.int .u8 0), .sc (.int .u8 0), .sc (.int .u8 0), .sc (.int .u8 0), .sc (.int .u8 0), .sc (.int .u8 0), .sc (.int .u8 0), .sc (.int .u8 0), .sc (.int .u8 0)]) ([.sc (.int .u32 1779033703), .sc (.int .u32 3144134277), .sc (.int .u32 1013904242), .sc (.int .u32 2773480762), .sc (.int .u32 1359893119), .sc (.int .u32 2600822924), .sc (.int .u32 528734635), .sc (.int .u32 1541459225)]) else none else none
theorem e27 (f : Nat) (nl : Bool) (fl : Bool) (l : List PV) (k : Res → Option Res) : JR tau F27 Try.f27 (Try.f27.body.get!) (Jl6 (JaK f) (JaL f)) [] 0 [.ro 29 nl fl l] [] k = g27 f nl fl l k := by kernel_rfl
theorem JxD (f : Nat) : Jg (Try.f27.body.get!) (Jl6 (JaK f) (JaL f)) = [.l JbX XM N27 (JaK f), .l JbY XN N27 (JaL f)] := by kernel_rfl
theorem JxE (f : Nat) : ∀ q ∈ Jg (Try.f27.body.get!) (Jl6 (JaK f) (JaL f)), q.Ok tau Try.prog 0 := by
  rw [JxD f]; simp only [List.forall_mem_cons, List.not_mem_nil, false_implies, implies_true, and_true]; exact ⟨JtI f, JtJ f⟩
theorem JtK : Try.prog.funcs[27]? = some Try.f27 := by kernel_rfl
theorem JtL : Try.f27.body = some (Try.f27.body.get!) := by kernel_rfl
theorem JtM : Enters Try.prog 27 := enters_of JtK (by kernel_rfl) JtL
-- FN sha.Sum
theorem JbZ : iv.length = 8 := rfl
theorem Jod (P : List Int) (m : Nat) (hP : P.length = 64 * m) (f : Nat) (k0 : List PV → List PV → Option Res) (a : List PV) : ∀ (d i n : Nat), i + d = m → d < n →
    YM f k0 n (pu .u8 (P.drop (64 * i))) a (pu .u32 (Q0 iv P i)) = k0 a (pu .u32 (Q0 iv P m))
  | 0, i, n + 1, h, hn => by
      obtain rfl : i = m := by omega
      have hl : (P.drop (64 * i)).length = 0 := by rw [List.length_drop]; omega
      simp only [YM, Vt, JF, hl]
      exact JL (by decide)
  | d + 1, i, n + 1, h, hn => by
      have hl : 64 ≤ (P.drop (64 * i)).length := by rw [List.length_drop]; omega
      have hf := Wt iv P JbZ i
      simp only [YM, Vt, JF, WT, JK, hf, Qf]
      refine (Jb (by simp; omega)).trans ?_
      refine (Jb (by simp at hl ⊢; omega)).trans ?_
      refine (Jb (by simp at hl ⊢; omega)).trans ?_
      refine (Jb (by simp at hl ⊢; omega)).trans ?_
      rw [List.take_of_length_le (Nat.le_refl _), JgN, List.drop_drop]
      have := Jod P m hP f k0 a d (i + 1) n (by omega) (by omega)
      rw [show 64 * i + 64 = 64 * (i + 1) from by omega]
      exact this
theorem Joe (s : List Int) (hs : s.length = 8) (f : Nat) (k0 : List PV → List PV → Option Res) (a : List PV) (t : List Int) (ht : t.length = 32) : ∀ (d i n : Nat), i + d = 32 → d < n →
    YN f k0 n (i : Int) a (pu .u32 s) (pu .u8 (Qp (Yd s) t i)) = k0 a (pu .u8 (Jiw s))
  | 0, i, n + 1, h, hn => by
      obtain rfl : i = 32 := by omega
      simp only [YN, Vu]
      refine (JL (by decide)).trans ?_
      have := QL (Yd s) t
      rw [ht] at this; rw [this]; rfl
  | d + 1, i, n + 1, h, hn => by
      have e1 : ((i : Int)).tdiv 4 = ((i / 4 : Nat) : Int) := by rw [Int.tdiv_eq_ediv_of_nonneg (by omega)]; omega
      have e2 : ((i : Int)).tmod 4 = ((i % 4 : Nat) : Int) := by rw [Int.tmod_eq_emod_of_nonneg (by omega)]; omega
      have h1 : IntKind.i64.wrap ((i : Int) + 1) = ((i + 1 : Nat) : Int) := by rw [wrap_i64 (by omega) (by omega)]; omega
      have h2 : IntKind.i64.wrap ((i / 4 : Nat) : Int) = ((i / 4 : Nat) : Int) := wrap_i64 (by omega) (by omega)
      have h3 : IntKind.i64.wrap (8 * ((i % 4 : Nat) : Int)) = 8 * ((i % 4 : Nat) : Int) := wrap_i64 (by omega) (by omega)
      have h4 : IntKind.i64.wrap (24 - 8 * ((i % 4 : Nat) : Int)) = 24 - 8 * ((i % 4 : Nat) : Int) := wrap_i64 (by omega) (by omega)
      have g1 : ((i : Int)).toNat = i := by omega
      have g2 : (((i / 4 : Nat) : Int)).toNat = i / 4 := by omega
      have c0 : decide ((i : Int) < 32) = true := by simp; omega
      have c1 : (decide (0 ≤ ((i / 4 : Nat) : Int)) && decide (((i / 4 : Nat) : Int) < zi 8) && true) = true := by simp; omega
      have c2 : (decide (0 ≤ 24 - 8 * ((i % 4 : Nat) : Int)) && true) = true := by simp; omega
      have c3 : (decide (0 ≤ (i : Int)) && decide ((i : Int) < zi 32) && true) = true := by simp; omega
      simp only [YN, Vu, e1, e2, h1, h2, h3, h4, g1, g2, Wp, c0, c1, c2, c3, YF hs (i / 4) (by omega), PV.isInt, PV.int, decide_true, Bool.and_true, cond_true, Wk]
      have := Joe s hs f k0 a t ht d (i + 1) n (by omega) (by omega)
      rw [← Ql (Yd s) t i (by omega)] at this
      exact this
theorem Jqh (nl fl : Bool) (l : List PV) (k : Res → Option Res) (hl : l.all (PV.isRo 5) = true) (hn : l.length ≤ 140737488355328) (hi : Jf .u8 (Jk l) = true) (hs : (Jk l).length ≤ 140737488355000) :
    g27 ((Qq (Je (Jk l))).length / 64 + 100) nl fl l k = k ⟨.ar 37 (pu .u8 (Jt (Je (Jk l)))), [], []⟩ := by
  refine (Jb (by simp only [hl, Bool.true_and, Bool.and_eq_true, decide_eq_true_eq]; omega)).trans ?_
  refine (Jb (by simp only [hi, Bool.true_and, Bool.and_eq_true, decide_eq_true_eq, true_and]; exact hs)).trans ?_
  rw [WT, List.take_of_length_le (Nat.le_refl _)]
  generalize hP : Qq (Je (Jk l)) = P
  have hlen : P.length = 64 * (P.length / 64) := by rw [← hP]; exact GB _
  have h0 : ∀ k0 a, YM (P.length / 64 + 100) k0 (P.length / 64 + 100) (pu .u8 P) a (pu .u32 iv) = k0 a (pu .u32 (Q0 iv P (P.length / 64))) := fun k0 a => Jod P (P.length / 64) hlen _ k0 a (P.length / 64) 0 _ (by omega) (by omega)
  have h1 : ∀ k0 a s, s.length = 8 → YN (P.length / 64 + 100) k0 (P.length / 64 + 100) 0 a (pu .u32 s) (pu .u8 (List.replicate 32 0)) = k0 a (pu .u8 (Jiw s)) := by
    intro k0 a s hs
    have := Joe s hs (P.length / 64 + 100) k0 a (List.replicate 32 0) (by simp) 32 0 (P.length / 64 + 100) (by omega) (by omega)
    rw [Qw] at this
    exact this
  refine (h0 _ _).trans ((h1 _ _ _ (Wt iv P JbZ _)).trans ?_)
  rw [GZ, Jg3, hP]
def JfY : List PV → List Ent → (Res → Option Res) → Option Res
  | [.ro 29 nl fl l], [], k => bif (l.all (PV.isRo 5) && decide (l.length ≤ 140737488355328)) && (Jf .u8 (Jk l) && decide ((Jk l).length ≤ 140737488355000)) then k ⟨.ar 37 (pu .u8 (Jt (Je (Jk l)))), [], []⟩ else none
  | _, _, _ => none
def Jqi : Sig := { own := [], run := JfY }
theorem Jof : Ji tau Try.prog 27 Jqi := JfB Jr JfX Js JtK JtL (fun n => Jl6 (JaK n) (JaL n)) [] 0 [] JfY (fun n => JxE n) fun xs es k res hr => by
  unfold JfY at hr
  split at hr
  · rename_i nl fl l
    obtain ⟨hc, hr⟩ := JI hr
    simp only [Bool.and_eq_true, decide_eq_true_eq] at hc
    refine ⟨rfl, (Qq (Je (Jk l))).length / 64 + 100, 0, (e27 _ _ _ _ _).trans ?_⟩
    rw [Jqh nl fl l k hc.1.1 hc.1.2 hc.2.1 hc.2.2]; exact hr
  · cases hr
noncomputable def JtN : Fns := F0
theorem Jl9 : Jz tau Try.prog JtN := JH
def Jhh : An := (.seq .leaf (.seq (.seq .leaf (.cond (.seq .leaf .leaf) .leaf)) (.seq .leaf .leaf)))
noncomputable def JtO (f : Nat) (s_z : Bool) (s_f : Bool) (s : List PV) (k : Res → Option Res) : Option Res := bif s_z then k (Res.mk (.ro 29 true true []) [] []) else bif Jj (0 + s.length) 24 && true then k (Res.mk (.ow 29 16 [] 0 (0 + s.length) none) [] [.vec false 29 false s]) else none
theorem JxF (f : Nat) (s_z : Bool) (s_f : Bool) (s : List PV) (k : Res → Option Res) : JR tau JtN Try.f136 (Try.f136.body.get!) Jhh [] 0 [.ro 29 s_z s_f s] [] k = JtO f s_z s_f s k := by kernel_rfl
theorem JtP (f : Nat) : Jg (Try.f136.body.get!) Jhh = [] := by kernel_rfl
theorem JtQ (f : Nat) : ∀ q ∈ Jg (Try.f136.body.get!) Jhh, q.Ok tau Try.prog 0 := by
  rw [JtP f]; intro q hq; cases hq
theorem Jog : Try.prog.funcs[136]? = some Try.f136 := by kernel_rfl
theorem Joh : Try.f136.body = some (Try.f136.body.get!) := by kernel_rfl
theorem JtR : Enters Try.prog 136 := enters_of Jog (by kernel_rfl) Joh
noncomputable def JfZ : List PV → List Ent → (Res → Option Res) → Option Res
  | [.ro 29 s_z s_f s], [], k => JtO 0 s_z s_f s k
  | _, _, _ => none
noncomputable def JtS : Sig := { own := [], run := JfZ }
theorem JtT : Ji tau Try.prog 136 JtS := J3 Jr Jl9 Js Jog Joh Jhh [] 0 [] JfZ (JtQ 0) fun xs es k res hr => by
  unfold JfZ at hr
  split at hr
  · exact ⟨rfl, 0, (JxF 0 _ _ _  _).trans hr⟩
  · cases hr
-- FN slices.overlaps[[]byte]
-- EXT slices.overlaps[[]byte]
noncomputable def Jhi : Sig := { own := [true, true], run := JgO 29 }
theorem Jf0 : Vh tau (Ji2 Try.prog 157) Jhi :=
  Jsb (fn := Try.f157) (t := 47) (tR := 4) Jr (by kernel_rfl) (by kernel_rfl) (by kernel_rfl) (by kernel_rfl) (by kernel_rfl) (by kernel_rfl) (by
    have h : tau.und 29 = some (.slice 5) := by kernel_rfl
    rw [h]; intro h; cases h)
noncomputable def JtU : Fns := JG 157 Jhi (F0)
theorem Jma : Jz tau Try.prog JtU := (JH).addV Jf0
def Jhj : An := (.seq .leaf (.seq .leaf (.seq .leaf (.seq (.seq .leaf (.cond (.seq .leaf .leaf) .leaf)) (.seq .leaf (.seq (.seq .leaf (.cond (.seq .leaf .leaf) .leaf)) (.seq (.seq .leaf (.cond (.seq .leaf (.seq .leaf (.seq .leaf (.seq .leaf .leaf)))) .leaf)) (.seq .leaf (.seq (.seq .leaf (.cond (.seq .leaf (.seq .leaf (.seq .leaf .leaf))) .leaf)) (.seq .leaf (.seq .leaf (.seq .leaf .leaf))))))))))))
noncomputable def Jqj (f : Nat) (nl : Bool) (L : List PV) (n : Nat) (c : Nat) (x : PV) (k : Res → Option Res) : Option Res := bif decide (n + 1 ≤ (some c).getD (L.length - 0)) && true then bif decide (IntKind.i64.wrap (zi (n + 1) + zi 1) > zi c) then bif decide (0 ≤ IntKind.i64.wrap (IntKind.i64.wrap (zi (n + 1) + zi 1) - 0)) && decide (c - 0 < 0 + (IntKind.i64.wrap (IntKind.i64.wrap (zi (n + 1) + zi 1) - 0)).toNat) && Jj (0 + (IntKind.i64.wrap (IntKind.i64.wrap (zi (n + 1) + zi 1) - 0)).toNat) 24 && true then bif decide (0 + (IntKind.i64.wrap (IntKind.i64.wrap (zi (n + 1) + zi 1) - 0)).toNat ≤ none.getD ((List.replicate (IntKind.i64.wrap (IntKind.i64.wrap (zi (n + 1) + zi 1) - 0)).toNat (PV.ro 5 true true [])).length - 0)) && true then bif decide (1 ≤ 0 + (IntKind.i64.wrap (IntKind.i64.wrap (zi (n + 1) + zi 1) - 0)).toNat) && decide (0 + (IntKind.i64.wrap (IntKind.i64.wrap (zi (n + 1) + zi 1) - 0)).toNat ≤ none.getD ((List.take (0 + (IntKind.i64.wrap (IntKind.i64.wrap (zi (n + 1) + zi 1) - 0)).toNat - 0) [x] ++ List.drop (0 + min 1 (0 + (IntKind.i64.wrap (IntKind.i64.wrap (zi (n + 1) + zi 1) - 0)).toNat - 0)) (List.replicate (IntKind.i64.wrap (IntKind.i64.wrap (zi (n + 1) + zi 1) - 0)).toNat (PV.ro 5 true true []))).length - 0)) && true then bif decide (n + 1 ≤ (some c).getD (L.length - 0)) && true then k (Res.mk (.ro 29 false false (List.take (0 + (IntKind.i64.wrap (IntKind.i64.wrap (zi (n + 1) + zi 1) - 0)).toNat) (List.take 1 (List.take (0 + (IntKind.i64.wrap (IntKind.i64.wrap (zi (n + 1) + zi 1) - 0)).toNat - 0) [x] ++ List.drop (0 + min 1 (0 + (IntKind.i64.wrap (IntKind.i64.wrap (zi (n + 1) + zi 1) - 0)).toNat - 0)) (List.replicate (IntKind.i64.wrap (IntKind.i64.wrap (zi (n + 1) + zi 1) - 0)).toNat (PV.ro 5 true true []))) ++ List.take (0 + (IntKind.i64.wrap (IntKind.i64.wrap (zi (n + 1) + zi 1) - 0)).toNat - 1) (List.take (n + 1 - 0) L) ++ List.drop (1 + min (List.take (n + 1 - 0) L).length (0 + (IntKind.i64.wrap (IntKind.i64.wrap (zi (n + 1) + zi 1) - 0)).toNat - 1)) (List.take (0 + (IntKind.i64.wrap (IntKind.i64.wrap (zi (n + 1) + zi 1) - 0)).toNat - 0) [x] ++ List.drop (0 + min 1 (0 + (IntKind.i64.wrap (IntKind.i64.wrap (zi (n + 1) + zi 1) - 0)).toNat - 0)) (List.replicate (IntKind.i64.wrap (IntKind.i64.wrap (zi (n + 1) + zi 1) - 0)).toNat (PV.ro 5 true true [])))))) [.vec false 29 nl L, .vec false 29 false [x]] []) else none else none else none else none else bif decide (0 ≤ IntKind.i64.wrap (zi (n + 1) + zi 1)) && true && decide ((IntKind.i64.wrap (zi (n + 1) + zi 1)).toNat ≤ (some c).getD (L.length - 0)) && true then bif decide (1 ≤ (IntKind.i64.wrap (zi (n + 1) + zi 1)).toNat - 0) && decide ((IntKind.i64.wrap (zi (n + 1) + zi 1)).toNat - 0 ≤ (some (c - 0)).getD (L.length - 0)) && true then bif Nat.blt 0 ((IntKind.i64.wrap (zi (n + 1) + zi 1)).toNat - 0 - 1) && true then bif decide (1 ≤ (IntKind.i64.wrap (zi (n + 1) + zi 1)).toNat - 0) && decide ((IntKind.i64.wrap (zi (n + 1) + zi 1)).toNat - 0 ≤ (some (c - 0)).getD (L.length - 0)) && true then bif decide ((IntKind.i64.wrap (zi (n + 1) + zi 1)).toNat - 0 ≤ (some (c - 0)).getD (L.length - 0)) && true then bif decide ((IntKind.i64.wrap (zi (n + 1) + zi 1)).toNat - 0 ≤ (some (c - 0)).getD ((List.take 1 L ++ List.take ((IntKind.i64.wrap (zi (n + 1) + zi 1)).toNat - 0 - 1) (List.take ((IntKind.i64.wrap (zi (n + 1) + zi 1)).toNat - 0 - 0) L) ++ List.drop (1 + min (List.take ((IntKind.i64.wrap (zi (n + 1) + zi 1)).toNat - 0 - 0) L).length ((IntKind.i64.wrap (zi (n + 1) + zi 1)).toNat - 0 - 1)) L).length - 0)) && true then k (Res.mk (.ro 29 (Ent.vec false 29 nl (List.take ((IntKind.i64.wrap (zi (n + 1) + zi 1)).toNat - 0 - 0) [x] ++ List.drop (0 + min 1 ((IntKind.i64.wrap (zi (n + 1) + zi 1)).toNat - 0 - 0)) (List.take 1 L ++ List.take ((IntKind.i64.wrap (zi (n + 1) + zi 1)).toNat - 0 - 1) (List.take ((IntKind.i64.wrap (zi (n + 1) + zi 1)).toNat - 0 - 0) L) ++ List.drop (1 + min (List.take ((IntKind.i64.wrap (zi (n + 1) + zi 1)).toNat - 0 - 0) L).length ((IntKind.i64.wrap (zi (n + 1) + zi 1)).toNat - 0 - 1)) L))).nil false (List.take ((IntKind.i64.wrap (zi (n + 1) + zi 1)).toNat - 0) (List.take ((IntKind.i64.wrap (zi (n + 1) + zi 1)).toNat - 0 - 0) [x] ++ List.drop (0 + min 1 ((IntKind.i64.wrap (zi (n + 1) + zi 1)).toNat - 0 - 0)) (List.take 1 L ++ List.take ((IntKind.i64.wrap (zi (n + 1) + zi 1)).toNat - 0 - 1) (List.take ((IntKind.i64.wrap (zi (n + 1) + zi 1)).toNat - 0 - 0) L) ++ List.drop (1 + min (List.take ((IntKind.i64.wrap (zi (n + 1) + zi 1)).toNat - 0 - 0) L).length ((IntKind.i64.wrap (zi (n + 1) + zi 1)).toNat - 0 - 1)) L)))) [.vec true 29 nl (List.take ((IntKind.i64.wrap (zi (n + 1) + zi 1)).toNat - 0 - 0) [x] ++ List.drop (0 + min 1 ((IntKind.i64.wrap (zi (n + 1) + zi 1)).toNat - 0 - 0)) (List.take 1 L ++ List.take ((IntKind.i64.wrap (zi (n + 1) + zi 1)).toNat - 0 - 1) (List.take ((IntKind.i64.wrap (zi (n + 1) + zi 1)).toNat - 0 - 0) L) ++ List.drop (1 + min (List.take ((IntKind.i64.wrap (zi (n + 1) + zi 1)).toNat - 0 - 0) L).length ((IntKind.i64.wrap (zi (n + 1) + zi 1)).toNat - 0 - 1)) L)), .vec false 29 false [x]] []) else none else none else none else none else none else none else none
theorem JxG (f : Nat) (nl : Bool) (L : List PV) (n : Nat) (c : Nat) (x : PV) (k : Res → Option Res) : JR tau JtU Try.f140 (Try.f140.body.get!) Jhj [.ro] 0 [.ow 29 0 [] 0 (n + 1) (some c), .sc (.int .i64 0), .ow 29 1 [] 0 1 (some 1)] [.vec false 29 nl L, .vec false 29 false [x]] k = Jqj f nl L n c x k := by kernel_rfl
theorem JtV (f : Nat) : Jg (Try.f140.body.get!) Jhj = [] := by kernel_rfl
theorem JtW (f : Nat) : ∀ q ∈ Jg (Try.f140.body.get!) Jhj, q.Ok tau Try.prog 2 := by
  rw [JtV f]; intro q hq; cases hq
theorem Joi : Try.prog.funcs[140]? = some Try.f140 := by kernel_rfl
theorem Joj : Try.f140.body = some (Try.f140.body.get!) := by kernel_rfl
theorem JtX : Enters Try.prog 140 := enters_of Joi (by kernel_rfl) Joj
noncomputable def Jok : Fns := JG 157 Jhi (F0)
theorem JjL : Jz tau Try.prog Jok := (JH).addV Jf0
def JcQ : An := (.seq .leaf (.seq .leaf (.seq .leaf (.seq (.seq .leaf (.cond (.seq .leaf .leaf) .leaf)) (.seq .leaf (.seq (.seq .leaf (.cond (.seq .leaf .leaf) .leaf)) (.seq (.seq .leaf (.cond (.seq .leaf (.seq .leaf (.seq .leaf (.seq .leaf .leaf)))) .leaf)) (.seq .leaf (.seq (.seq .leaf (.cond (.seq .leaf (.seq .leaf (.seq .leaf .leaf))) .leaf)) (.seq .leaf (.seq .leaf (.seq .leaf .leaf))))))))))))
noncomputable def JtY (f : Nat) (x : PV) (k : Res → Option Res) : Option Res := k (Res.mk (.ro 29 false false [x]) [.vec false 29 false [x]] [])
theorem JtZ (f : Nat) (x : PV) (k : Res → Option Res) : JR tau Jok Try.f140 (Try.f140.body.get!) JcQ [.ro] 0 [.ro 29 true true [], .sc (.int .i64 0), .ow 29 0 [] 0 1 (some 1)] [.vec false 29 false [x]] k = JtY f x k := by kernel_rfl
theorem Jqk (f : Nat) : Jg (Try.f140.body.get!) JcQ = [] := by kernel_rfl
theorem Jql (f : Nat) : ∀ q ∈ Jg (Try.f140.body.get!) JcQ, q.Ok tau Try.prog 1 := by
  rw [Jqk f]; intro q hq; cases hq
theorem Jqm : Try.prog.funcs[140]? = some Try.f140 := by kernel_rfl
theorem Jqn : Try.f140.body = some (Try.f140.body.get!) := by kernel_rfl
noncomputable def Jol : Fns := JG 157 Jhi (F0)
theorem JjM : Jz tau Try.prog Jol := (JH).addV Jf0
def JcR : An := (.seq .leaf (.seq .leaf (.seq .leaf (.seq (.seq .leaf (.cond (.seq .leaf .leaf) .leaf)) (.seq .leaf (.seq (.seq .leaf (.cond (.seq .leaf .leaf) .leaf)) (.seq (.seq .leaf (.cond (.seq .leaf (.seq .leaf (.seq .leaf (.seq .leaf .leaf)))) .leaf)) (.seq .leaf (.seq (.seq .leaf (.cond (.seq .leaf (.seq .leaf (.seq .leaf .leaf))) .leaf)) (.seq .leaf (.seq .leaf (.seq .leaf .leaf))))))))))))
noncomputable def Jt0 (f : Nat) (nl : Bool) (x : PV) (k : Res → Option Res) : Option Res := k (Res.mk (.ro 29 (Ent.vec false 29 (nl && ((Ent.vec false 29 false [x]).nil, List.take 1 (List.drop 0 [x])).snd.isEmpty) [x]).nil false [x]) [.dead, .vec false 29 false [x]] [])
theorem Jt1 (f : Nat) (nl : Bool) (x : PV) (k : Res → Option Res) : JR tau Jol Try.f140 (Try.f140.body.get!) JcR [.ro] 0 [.ow 29 0 [] 0 0 none, .sc (.int .i64 0), .ow 29 1 [] 0 1 (some 1)] [.vec false 29 nl [], .vec false 29 false [x]] k = Jt0 f nl x k := by kernel_rfl
theorem Jqo (f : Nat) : Jg (Try.f140.body.get!) JcR = [] := by kernel_rfl
theorem Jqp (f : Nat) : ∀ q ∈ Jg (Try.f140.body.get!) JcR, q.Ok tau Try.prog 2 := by
  rw [Jqo f]; intro q hq; cases hq
theorem Jqq : Try.prog.funcs[140]? = some Try.f140 := by kernel_rfl
theorem Jqr : Try.f140.body = some (Try.f140.body.get!) := by kernel_rfl
end Go.Proofs.Ytcklhipdldpkhaa.Rx
