/- What the functions of this law compute, and their plain laws. Conditions: none. -/
import Derived.Test.YtcklhipdldpkhaaProg
import Derived.Test.YtcklhipdldpkhaaSignOpensZ4
namespace Go.Proofs.Ytcklhipdldpkhaa.Rx
open Go
set_option linter.unusedVariables false
set_option linter.unusedSimpArgs false
set_option maxRecDepth 100000
set_option maxHeartbeats 0
def tys : List TypeId := [1, 2, 3, 4, 5, 9, 12, 21, 22, 23, 24, 25, 26, 28, 29, 30, 31, 32, 33, 34, 35, 36, 37, 38, 39, 40, 41, 42, 43, 44, 45, 46, 47, 48, 49, 50, 51, 52, 53, 54, 55, 56, 57, 58, 59, 60, 62, 64, 65, 66, 67, 68, 69, 70, 71, 72, 73, 74, 75, 76, 77, 78, 79, 81, 82, 83, 85, 86, 87, 88, 89, 90, 91, 92, 93, 94, 95, 96, 97, 98, 99, 100, 101, 102, 103, 104, 105, 106, 107, 109, 110, 111, 112, 113, 114, 115, 116, 117, 118, 119, 120, 121, 122, 123, 124, 125, 126, 128, 129, 130, 131, 132, 133, 134, 135, 136, 137, 138, 139, 140, 141, 142, 143, 144, 145, 146, 147, 148, 149, 150, 151, 152, 153, 155, 156, 157, 158, 160, 161, 162, 163, 164, 165, 166, 167, 168, 170, 172, 173, 174, 176, 177, 184, 185, 186, 187, 188, 189, 190, 191, 192, 193, 195, 196, 197, 198, 200, 202, 203, 204, 205, 206, 207, 208, 209, 212, 213]
def Jy4 : TypeId → Option PV := fun t =>
  bif t == 1 then some (.sc .nilFunc) else
  bif t == 2 then some (.sc (.int .i64 0)) else
  bif t == 3 then some (.sc (.int .i64 0)) else
  bif t == 4 then some (.sc (.bool false)) else
  bif t == 5 then some (.sc (.int .u8 0)) else
  bif t == 9 then some (.sc (.string ByteArray.empty)) else
  bif t == 12 then some (.sc (.int .u64 0)) else
  bif t == 21 then some (.sc (.int .i32 0)) else
  bif t == 22 then some (.ro 106 true true []) else
  bif t == 23 then some (.sc .nilFunc) else
  bif t == 24 then some (.sc .nilFunc) else
  bif t == 25 then some (.ro 93 true true []) else
  bif t == 26 then some (.ro 41 true true []) else
  bif t == 28 then some (.sc .nilFunc) else
  bif t == 29 then some (.ro 5 true true []) else
  bif t == 30 then some (.st 30 (List.replicate 3 (.ro 5 true true []))) else
  bif t == 31 then some (.st 31 (List.replicate 3 (.ro 5 true true []))) else
  bif t == 32 then some (.sc .nilFunc) else
  bif t == 33 then some (.st 33 [.sc (.int .i64 0), .sc (.int .i64 0)]) else
  bif t == 34 then some (.st 34 [.sc (.int .i64 0), .sc (.int .i64 0)]) else
  bif t == 35 then some (.ro 45 true true []) else
  bif t == 36 then some (.ar 36 (List.replicate 32 (.sc (.int .u8 0)))) else
  bif t == 37 then some (.ar 37 (List.replicate 32 (.sc (.int .u8 0)))) else
  bif t == 38 then some (.st 38 [.st 34 [.sc (.int .i64 0), .sc (.int .i64 0)], .sc (.string ByteArray.empty), .ro 45 true true [], .sc (.int .i64 0), .ar 37 (List.replicate 32 (.sc (.int .u8 0)))]) else
  bif t == 39 then some (.st 39 [.st 34 [.sc (.int .i64 0), .sc (.int .i64 0)], .sc (.string ByteArray.empty), .ro 45 true true [], .sc (.int .i64 0), .ar 37 (List.replicate 32 (.sc (.int .u8 0)))]) else
  bif t == 40 then some (.sc .nilFunc) else
  bif t == 41 then some (.st 41 [.st 34 [.sc (.int .i64 0), .sc (.int .i64 0)], .sc (.string ByteArray.empty), .ro 45 true true [], .sc (.int .i64 0), .ar 37 (List.replicate 32 (.sc (.int .u8 0)))]) else
  bif t == 42 then some (.sc .nilFunc) else
  bif t == 43 then some (.sc .nilFunc) else
  bif t == 44 then some (.st 44 [.sc (.int .i64 0), .sc (.int .i64 0)]) else
  bif t == 45 then some (.st 45 [.sc (.int .i64 0), .sc (.int .i64 0)]) else
  bif t == 46 then some (.sc .nilFunc) else
  bif t == 47 then some (.ro 29 true true []) else
  bif t == 48 then some (.sc .nilFunc) else
  bif t == 49 then some (.sc .nilFunc) else
  bif t == 50 then some (.sc .nilFunc) else
  bif t == 51 then some (.sc .nilFunc) else
  bif t == 52 then some (.sc .nilFunc) else
  bif t == 53 then some (.st 53 [.sc (.int .i64 0), .sc (.int .i64 0), .sc (.int .i64 0), .st 34 [.sc (.int .i64 0), .sc (.int .i64 0)], .st 45 [.sc (.int .i64 0), .sc (.int .i64 0)], .sc (.int .i64 0), .sc (.int .i64 0), .st 45 [.sc (.int .i64 0), .sc (.int .i64 0)], .sc (.int .i64 0), .sc (.int .i64 0), .ro 29 true true []]) else
  bif t == 54 then some (.st 54 [.sc (.int .i64 0), .sc (.int .i64 0), .sc (.int .i64 0), .st 34 [.sc (.int .i64 0), .sc (.int .i64 0)], .st 45 [.sc (.int .i64 0), .sc (.int .i64 0)], .sc (.int .i64 0), .sc (.int .i64 0), .st 45 [.sc (.int .i64 0), .sc (.int .i64 0)], .sc (.int .i64 0), .sc (.int .i64 0), .ro 29 true true []]) else
  bif t == 55 then some (.ro 3 true true []) else
  bif t == 56 then some (.sc .nilFunc) else
  bif t == 57 then some (.sc .nilFunc) else
  bif t == 58 then some (.sc .nilFunc) else
  bif t == 59 then some (.sc .nilFunc) else
  bif t == 60 then some (.sc (.int .i64 0)) else
  bif t == 62 then some (.sc .nilFunc) else
  bif t == 64 then some (.sc .nilFunc) else
  bif t == 65 then some (.sc .nilFunc) else
  bif t == 66 then some (.sc .nilFunc) else
  bif t == 67 then some (.sc .nilFunc) else
  bif t == 68 then some (.sc .nilFunc) else
  bif t == 69 then some (.sc .nilFunc) else
  bif t == 70 then some (.ro 99 true true []) else
  bif t == 71 then some (.ro 99 true true []) else
  bif t == 72 then some (.st 72 [.st 45 [.sc (.int .i64 0), .sc (.int .i64 0)], .sc (.int .i64 0), .sc (.int .i64 0), .ar 37 (List.replicate 32 (.sc (.int .u8 0))), .sc (.int .i64 0), .ro 99 true true [], .st 45 [.sc (.int .i64 0), .sc (.int .i64 0)]]) else
  bif t == 73 then some (.st 73 [.st 45 [.sc (.int .i64 0), .sc (.int .i64 0)], .sc (.int .i64 0), .sc (.int .i64 0), .ar 37 (List.replicate 32 (.sc (.int .u8 0))), .sc (.int .i64 0), .ro 99 true true [], .st 45 [.sc (.int .i64 0), .sc (.int .i64 0)]]) else
  bif t == 74 then some (.sc .nilFunc) else
  bif t == 75 then some (.sc .nilFunc) else
  bif t == 76 then some (.st 76 [.ro 5 true true [], .ar 37 (List.replicate 32 (.sc (.int .u8 0)))]) else
  bif t == 77 then some (.st 77 [.ro 5 true true [], .ar 37 (List.replicate 32 (.sc (.int .u8 0)))]) else
  bif t == 78 then some (.sc .nilFunc) else
  bif t == 79 then some (.sc .nilFunc) else
  bif t == 81 then some (.sc .nilFunc) else
  bif t == 82 then some (.sc .nilFunc) else
  bif t == 83 then some (.ro 31 true true []) else
  bif t == 85 then some (.sc .nilFunc) else
  bif t == 86 then some (.sc .nilFunc) else
  bif t == 87 then some (.sc .nilFunc) else
  bif t == 88 then some (.sc .nilFunc) else
  bif t == 89 then some (.sc .nilFunc) else
  bif t == 90 then some (.sc .nilFunc) else
  bif t == 91 then some (.sc .nilFunc) else
  bif t == 92 then some (.st 92 [.st 77 [.ro 5 true true [], .ar 37 (List.replicate 32 (.sc (.int .u8 0)))], .sc (.int .i64 0), .ro 99 true true [], .ar 37 (List.replicate 32 (.sc (.int .u8 0))), .ar 37 (List.replicate 32 (.sc (.int .u8 0)))]) else
  bif t == 93 then some (.st 93 [.st 77 [.ro 5 true true [], .ar 37 (List.replicate 32 (.sc (.int .u8 0)))], .sc (.int .i64 0), .ro 99 true true [], .ar 37 (List.replicate 32 (.sc (.int .u8 0))), .ar 37 (List.replicate 32 (.sc (.int .u8 0)))]) else
  bif t == 94 then some (.sc .nilFunc) else
  bif t == 95 then some (.sc .nilFunc) else
  bif t == 96 then some (.sc .nilFunc) else
  bif t == 97 then some (.sc .nilFunc) else
  bif t == 98 then some (.st 98 [.sc (.int .i64 0), .sc (.int .i64 0), .sc (.string ByteArray.empty)]) else
  bif t == 99 then some (.st 99 [.sc (.int .i64 0), .sc (.int .i64 0), .sc (.string ByteArray.empty)]) else
  bif t == 100 then some (.sc .nilFunc) else
  bif t == 101 then some (.sc .nilFunc) else
  bif t == 102 then some (.sc .nilFunc) else
  bif t == 103 then some (.sc .nilFunc) else
  bif t == 104 then some (.sc .nilFunc) else
  bif t == 105 then some (.st 105 [.sc (.int .i64 0), .sc (.int .i64 0), .sc (.int .i64 0), .ro 3 true true []]) else
  bif t == 106 then some (.st 106 [.sc (.int .i64 0), .sc (.int .i64 0), .sc (.int .i64 0), .ro 3 true true []]) else
  bif t == 107 then some (.sc .nilFunc) else
  bif t == 109 then some (.sc .nilFunc) else
  bif t == 110 then some (.sc .nilFunc) else
  bif t == 111 then some (.sc (.int .u32 0)) else
  bif t == 112 then some (.ar 112 (List.replicate 8 (.sc (.int .u32 0)))) else
  bif t == 113 then some (.ar 113 (List.replicate 8 (.sc (.int .u32 0)))) else
  bif t == 114 then some (.sc .nilFunc) else
  bif t == 115 then some (.sc .nilFunc) else
  bif t == 116 then some (.sc .nilFunc) else
  bif t == 117 then some (.sc .nilFunc) else
  bif t == 118 then some (.ar 118 (List.replicate 64 (.sc (.int .u32 0)))) else
  bif t == 119 then some (.sc .nilFunc) else
  bif t == 120 then some (.sc (.int .u64 0)) else
  bif t == 121 then some (.sc (.int .u64 0)) else
  bif t == 122 then some (.sc .nilFunc) else
  bif t == 123 then some (.sc .nilFunc) else
  bif t == 124 then some (.sc .nilFunc) else
  bif t == 125 then some (.sc (.pointer none)) else
  bif t == 126 then some (.sc .nilFunc) else
  bif t == 128 then some (.sc .nilFunc) else
  bif t == 129 then some (.sc .nilFunc) else
  bif t == 130 then some (.sc .nilFunc) else
  bif t == 131 then some (.sc .nilFunc) else
  bif t == 132 then some (.sc .nilFunc) else
  bif t == 133 then some (.sc (.pointer none)) else
  bif t == 134 then some (.sc .nilFunc) else
  bif t == 135 then some (.sc .nilFunc) else
  bif t == 136 then some (.sc .nilFunc) else
  bif t == 137 then some (.st 137 [.ro 5 true true [], .sc (.int .i64 0), .sc (.int .i64 0)]) else
  bif t == 138 then some (.st 138 [.ro 5 true true [], .sc (.int .i64 0), .sc (.int .i64 0)]) else
  bif t == 139 then some (.sc .nilFunc) else
  bif t == 140 then some (.sc .nilFunc) else
  bif t == 141 then some (.sc .nilFunc) else
  bif t == 142 then some (.sc .nilFunc) else
  bif t == 143 then some (.sc .nilFunc) else
  bif t == 144 then some (.sc .nilFunc) else
  bif t == 145 then some (.ro 148 true true []) else
  bif t == 146 then some (.sc .nilFunc) else
  bif t == 147 then some (.sc (.pointer none)) else
  bif t == 148 then some (.sc (.pointer none)) else
  bif t == 149 then some (.sc .nilFunc) else
  bif t == 150 then some (.sc .nilFunc) else
  bif t == 151 then some (.sc .nilFunc) else
  bif t == 152 then some (.sc .nilFunc) else
  bif t == 153 then some (.sc .nilFunc) else
  bif t == 155 then some (.sc .nilFunc) else
  bif t == 156 then some (.sc .nilFunc) else
  bif t == 157 then some (.sc .nilFunc) else
  bif t == 158 then some (.sc .nilFunc) else
  bif t == 160 then some (.sc .nilFunc) else
  bif t == 161 then some (.sc .nilFunc) else
  bif t == 162 then some (.sc .nilFunc) else
  bif t == 163 then some (.sc (.complex .f64 0 0)) else
  bif t == 164 then some (.sc (.float .f64 0)) else
  bif t == 165 then some (.ro 163 true true []) else
  bif t == 166 then some (.sc .nilFunc) else
  bif t == 167 then some (.sc .nilFunc) else
  bif t == 168 then some (.sc .nilFunc) else
  bif t == 170 then some (.sc .nilFunc) else
  bif t == 172 then some (.sc .nilFunc) else
  bif t == 173 then some (.sc .nilFunc) else
  bif t == 174 then some (.sc .nilFunc) else
  bif t == 176 then some (.sc .nilFunc) else
  bif t == 177 then some (.sc .nilFunc) else
  bif t == 184 then some (.sc .nilFunc) else
  bif t == 185 then some (.st 185 [.ro 5 true true [], .sc (.int .i64 0)]) else
  bif t == 186 then some (.st 186 [.ro 5 true true [], .sc (.int .i64 0)]) else
  bif t == 187 then some (.sc .nilFunc) else
  bif t == 188 then some (.sc .nilFunc) else
  bif t == 189 then some (.ar 189 (List.replicate 64 (.sc (.int .u8 0)))) else
  bif t == 190 then some (.ar 190 (List.replicate 64 (.sc (.int .u8 0)))) else
  bif t == 191 then some (.sc .nilFunc) else
  bif t == 192 then some (.sc .nilFunc) else
  bif t == 193 then some (.sc .nilFunc) else
  bif t == 195 then some (.sc .nilFunc) else
  bif t == 196 then some (.sc .nilFunc) else
  bif t == 197 then some (.sc .nilFunc) else
  bif t == 198 then some (.sc .nilFunc) else
  bif t == 200 then some (.sc .nilFunc) else
  bif t == 202 then some (.sc .nilFunc) else
  bif t == 203 then some (.sc (.pointer none)) else
  bif t == 204 then some (.sc .nilFunc) else
  bif t == 205 then some (.sc .nilFunc) else
  bif t == 206 then some (.sc .nilFunc) else
  bif t == 207 then some (.sc .nilFunc) else
  bif t == 208 then some (.sc .nilFunc) else
  bif t == 209 then some (.sc .nilFunc) else
  bif t == 212 then some (.sc .nilFunc) else
  bif t == 213 then some (.sc .nilFunc) else
  none
noncomputable def tau : Tab := VG Try.prog tys Jy4
theorem Jr : TabOk tau Try.prog := Jkt (by kernel_rfl)
theorem Js : Try.prog.follows .mixedOrders = true := by kernel_rfl
def F0 : Fns := fun _ => none
theorem JG : Jz tau Try.prog F0 := fun g sg h => by cases h
noncomputable def F21 : Fns := F0
theorem Jro : Jz tau Try.prog F21 := JG
def JmK : An := (.seq .leaf (.seq .leaf (.seq .leaf .leaf)))
noncomputable def g21 (f : Nat) (b_z : Bool) (b_f : Bool) (b : List PV) (k : Res → Option Res) : Option Res := bif decide (0 ≤ Qc (zi b.length) 60) && true && decide ((Qc (zi b.length) 60).toNat ≤ b.length) && true then bif Jn (2 + (List.take (Qc (zi b.length) 60).toNat b).length) 1 && true then bif Jn (2 + (List.take (Qc (zi b.length) 60).toNat b).length) 1 && true then bif Jn (2 + (List.take (Qc (zi b.length) 60).toNat b).length) 1 && true then k (Res.mk (.st 31 [.ro 5 false false (List.take (2 + (List.take (Qc (zi b.length) 60).toNat b).length) (.sc (.int .u8 107) :: .sc (.int .u8 48) :: id (List.take (Qc (zi b.length) 60).toNat b))), .ro 5 false false (List.take (2 + (List.take (Qc (zi b.length) 60).toNat b).length) (.sc (.int .u8 107) :: .sc (.int .u8 49) :: id (List.take (Qc (zi b.length) 60).toNat b))), .ro 5 false false (List.take (2 + (List.take (Qc (zi b.length) 60).toNat b).length) (.sc (.int .u8 107) :: .sc (.int .u8 50) :: id (List.take (Qc (zi b.length) 60).toNat b)))]) [] []) else none else none else none else none
theorem e21 (f : Nat) (b_z : Bool) (b_f : Bool) (b : List PV) (k : Res → Option Res) : JM tau F21 Try.f21 (Try.f21.body.get!) JmK [.ro] 0 [.ro 5 b_z b_f b] [] k = g21 f b_z b_f b k := by kernel_rfl
theorem Jy5 (f : Nat) : Jg (Try.f21.body.get!) JmK = [] := by kernel_rfl
theorem Jy6 (f : Nat) : ∀ q ∈ Jg (Try.f21.body.get!) JmK, q.Ok tau Try.prog 0 := by
  rw [Jy5 f]; intro q hq; cases hq
theorem JtS : Try.prog.funcs[21]? = some Try.f21 := by kernel_rfl
theorem JtT : Try.f21.body = some (Try.f21.body.get!) := by kernel_rfl
theorem JtU : Enters Try.prog 21 := enters_of JtS (by kernel_rfl) JtT
noncomputable def Jkx : List PV → List Ent → (Res → Option Res) → Option Res
  | [.ro 5 b_z b_f b], [], k => g21 0 b_z b_f b k
  | _, _, _ => none
noncomputable def s21 : Sig := { own := [], run := Jkx }
theorem Jy7 : Ji tau Try.prog 21 s21 := JS Jr Jro Js JtS JtT JmK [.ro] 0 [] Jkx (Jy6 0) fun xs es k res hr => by
  unfold Jkx at hr
  split at hr
  · exact ⟨rfl, 0, (e21 0 _ _ _  _).trans hr⟩
  · cases hr

-- FN law16.within
noncomputable def okW : Int → Bool := hid fun n => decide (0 < n) && decide (n < 1000000000000)


noncomputable def JtV : Fns := F0
theorem JmL : Jz tau Try.prog JtV := JG
def Jh4 : An := (.seq .leaf (.seq (.seq .leaf (.cond (.seq .leaf .leaf) .leaf)) (.seq .leaf .leaf)))
noncomputable def JmM (f : Nat) (s_z : Bool) (s_f : Bool) (s : List PV) (k : Res → Option Res) : Option Res := bif s_z then k (Res.mk (.ro 5 true true []) [] []) else bif Jn (0 + s.length) 1 && true then k (Res.mk (.ro 5 false false (List.take (0 + s.length) s)) [] []) else none
theorem Jy8 (f : Nat) (s_z : Bool) (s_f : Bool) (s : List PV) (k : Res → Option Res) : JM tau JtV Try.f131 (Try.f131.body.get!) Jh4 [.ro] 0 [.ro 5 s_z s_f s] [] k = JmM f s_z s_f s k := by kernel_rfl
theorem JtW (f : Nat) : Jg (Try.f131.body.get!) Jh4 = [] := by kernel_rfl
theorem JtX (f : Nat) : ∀ q ∈ Jg (Try.f131.body.get!) Jh4, q.Ok tau Try.prog 0 := by
  rw [JtW f]; intro q hq; cases hq
theorem Jpa : Try.prog.funcs[131]? = some Try.f131 := by kernel_rfl
theorem Jpb : Try.f131.body = some (Try.f131.body.get!) := by kernel_rfl
theorem JtY : Enters Try.prog 131 := enters_of Jpa (by kernel_rfl) Jpb
noncomputable def Jgy : List PV → List Ent → (Res → Option Res) → Option Res
  | [.ro 5 s_z s_f s], [], k => JmM 0 s_z s_f s k
  | _, _, _ => none
noncomputable def Jy9 : Sig := { own := [], run := Jgy }
theorem JtZ : Ji tau Try.prog 131 Jy9 := JS Jr JmL Js Jpa Jpb Jh4 [.ro] 0 [] Jgy (JtX 0) fun xs es k res hr => by
  unfold Jgy at hr
  split at hr
  · exact ⟨rfl, 0, (Jy8 0 _ _ _  _).trans hr⟩
  · cases hr
-- FN slices.Clone[[]byte,byte]
def slB (z : Bool) (l : List PV) : Bool := (!z || l.isEmpty) && Nat.ble l.length 1000000000
theorem Wp {z : Bool} {l : List PV} : slB z l = true ↔ (z = true → l = []) ∧ l.length ≤ 1000000000 := by
  simp only [slB, Bool.and_eq_true, Nat.ble_eq, Bool.or_eq_true, Bool.not_eq_true', List.isEmpty_iff]
  cases z <;> simp
def Jdy : List PV → List Ent → (Res → Option Res) → Option Res
  | [.ro 5 z f l], [], k => bif slB z l then k ⟨.ro 5 z z l, [], []⟩ else none
  | _, _, _ => none
def Jpc : Sig := { own := [], run := Jdy }
theorem Jrp : Ji tau Try.prog 131 Jpc := JtZ.of fun xs es k res hr => by
  change Jdy xs es k = some res at hr
  unfold Jdy at hr
  split at hr
  · rename_i z f l
    obtain ⟨hc, hr⟩ := JL hr
    obtain ⟨h1, h2⟩ := Wp.1 hc
    show JmM 0 z f l k = some res
    unfold JmM
    cases z with
    | true => obtain rfl := h1 rfl; exact hr
    | false =>
      rw [cond_false, Jc (by simp [Jn]; omega)]
      simp only [Nat.zero_add, List.nil_append, List.take_length]
      exact hr
  · cases hr
noncomputable def F76 : Fns := JD 131 Jpc (F0)
theorem Jrq : Jz tau Try.prog F76 := (JG).add Jrp JtY
def JmN : An := (.seq .leaf (.seq .leaf .leaf))
noncomputable def g76 (f : Nat) (b_z : Bool) (b_f : Bool) (b : List PV) (k : Res → Option Res) : Option Res := bif slB b_z b then k (Res.mk (.ptr 16 []) [] [.box false 186 (PV.st 186 [.ro 5 b_z b_z b, .sc (.int .i64 0)])]) else none
theorem e76 (f : Nat) (b_z : Bool) (b_f : Bool) (b : List PV) (k : Res → Option Res) : JM tau F76 Try.f76 (Try.f76.body.get!) JmN [.any] 0 [.ro 5 b_z b_f b] [] k = g76 f b_z b_f b k := by kernel_rfl
theorem Jza (f : Nat) : Jg (Try.f76.body.get!) JmN = [] := by kernel_rfl
theorem Jzb (f : Nat) : ∀ q ∈ Jg (Try.f76.body.get!) JmN, q.Ok tau Try.prog 0 := by
  rw [Jza f]; intro q hq; cases hq
theorem Jt0 : Try.prog.funcs[76]? = some Try.f76 := by kernel_rfl
theorem Jt1 : Try.f76.body = some (Try.f76.body.get!) := by kernel_rfl
theorem Jt2 : Enters Try.prog 76 := enters_of Jt0 (by kernel_rfl) Jt1
noncomputable def Jky : List PV → List Ent → (Res → Option Res) → Option Res
  | [.ro 5 b_z b_f b], [], k => g76 0 b_z b_f b k
  | _, _, _ => none
noncomputable def s76 : Sig := { own := [], run := Jky }
theorem Jt3 : Ji tau Try.prog 76 s76 := JS Jr Jrq Js Jt0 Jt1 JmN [.any] 0 [] Jky (Jzb 0) fun xs es k res hr => by
  unfold Jky at hr
  split at hr
  · exact ⟨rfl, 0, (e76 0 _ _ _  _).trans hr⟩
  · cases hr

noncomputable def Jt4 : Fns := F0
theorem JmO : Jz tau Try.prog Jt4 := JG
def Jh5 : An := (.seq .leaf (.cond .leaf .leaf))
noncomputable def Jt5 (f : Nat) (r_b_z : Bool) (r_b_f : Bool) (r_b : List PV) (r_e : Int) (e : Int) (k : Res → Option Res) : Option Res := bif r_e == 0 then k (Res.mk (.tup []) [.box false 186 (PV.st 186 [.ro 5 r_b_z r_b_f r_b, .sc (.int .i64 e)])] []) else k (Res.mk (.tup []) [.box false 186 (PV.st 186 [.ro 5 r_b_z r_b_f r_b, .sc (.int .i64 r_e)])] [])
theorem Jzc (f : Nat) (r_b_z : Bool) (r_b_f : Bool) (r_b : List PV) (r_e : Int) (e : Int) (k : Res → Option Res) : JM tau Jt4 Try.f134 (Try.f134.body.get!) Jh5 [] 0 [.ptr 0 [], .sc (.int .i64 e)] [.box false 186 (.st 186 [.ro 5 r_b_z r_b_f r_b, .sc (.int .i64 r_e)])] k = Jt5 f r_b_z r_b_f r_b r_e e k := by kernel_rfl
theorem Jt6 (f : Nat) : Jg (Try.f134.body.get!) Jh5 = [] := by kernel_rfl
theorem Jt7 (f : Nat) : ∀ q ∈ Jg (Try.f134.body.get!) Jh5, q.Ok tau Try.prog 1 := by
  rw [Jt6 f]; intro q hq; cases hq
theorem Jpd : Try.prog.funcs[134]? = some Try.f134 := by kernel_rfl
theorem Jpe : Try.f134.body = some (Try.f134.body.get!) := by kernel_rfl
theorem Jpf : Enters Try.prog 134 := enters_of Jpd (by kernel_rfl) Jpe
noncomputable def Jgz : List PV → List Ent → (Res → Option Res) → Option Res
  | [.ptr 0 [], .sc (.int .i64 e)], [.box false 186 (.st 186 [.ro 5 r_b_z r_b_f r_b, .sc (.int .i64 r_e)])], k => Jt5 0 r_b_z r_b_f r_b r_e e k
  | _, _, _ => none
noncomputable def Jrr : Sig := { own := [], run := Jgz }
theorem Jpg : Ji tau Try.prog 134 Jrr := JS Jr JmO Js Jpd Jpe Jh5 [] 1 [] Jgz (Jt7 0) fun xs es k res hr => by
  unfold Jgz at hr
  split at hr
  · exact ⟨rfl, 0, (Jzc 0 _ _ _ _ _  _).trans hr⟩
  · cases hr
noncomputable def Jt8 : Fns := JD 134 Jrr (F0)
theorem JmP : Jz tau Try.prog Jt8 := (JG).add Jpg Jpf
def Jh6 : An := (.seq .leaf (.seq (.seq .leaf (.cond .leaf .leaf)) (.seq (.seq .leaf (.cond (.seq .leaf .leaf) .leaf)) (.seq .leaf (.seq .leaf (.seq .leaf .leaf))))))
noncomputable def JmQ (f : Nat) (r_b_z : Bool) (r_b_f : Bool) (r_b : List PV) (r_e : Int) (n : Int) (k : Res → Option Res) : Option Res := bif decide (n > zi r_b.length) then bif r_e == 0 then k (Res.mk (.ro 5 true true []) [.box false 186 (PV.st 186 [.ro 5 r_b_z r_b_f r_b, .sc (.int .i64 8)])] []) else bif r_e != 0 then k (Res.mk (.ro 5 true true []) [.box false 186 (PV.st 186 [.ro 5 r_b_z r_b_f r_b, .sc (.int .i64 r_e)])] []) else bif decide (0 ≤ n) && true && decide (n.toNat ≤ r_b.length) && true then bif decide (0 ≤ n) && true && decide (n.toNat ≤ r_b.length) && decide (r_b.length ≤ r_b.length) && true then k (Res.mk (.ro 5 r_b_z (r_b_z || r_b_f && false) (List.take n.toNat r_b)) [.box false 186 (PV.st 186 [.ro 5 r_b_z (r_b_z || r_b_f && true) (List.drop n.toNat (List.take r_b.length r_b)), .sc (.int .i64 r_e)])] []) else none else none else bif r_e != 0 then k (Res.mk (.ro 5 true true []) [.box false 186 (PV.st 186 [.ro 5 r_b_z r_b_f r_b, .sc (.int .i64 r_e)])] []) else bif decide (0 ≤ n) && true && decide (n.toNat ≤ r_b.length) && true then bif decide (0 ≤ n) && true && decide (n.toNat ≤ r_b.length) && decide (r_b.length ≤ r_b.length) && true then k (Res.mk (.ro 5 r_b_z (r_b_z || r_b_f && false) (List.take n.toNat r_b)) [.box false 186 (PV.st 186 [.ro 5 r_b_z (r_b_z || r_b_f && true) (List.drop n.toNat (List.take r_b.length r_b)), .sc (.int .i64 r_e)])] []) else none else none
theorem Jzd (f : Nat) (r_b_z : Bool) (r_b_f : Bool) (r_b : List PV) (r_e : Int) (n : Int) (k : Res → Option Res) : JM tau Jt8 Try.f156 (Try.f156.body.get!) Jh6 [.ro] 0 [.ptr 0 [], .sc (.int .i64 n)] [.box false 186 (.st 186 [.ro 5 r_b_z r_b_f r_b, .sc (.int .i64 r_e)])] k = JmQ f r_b_z r_b_f r_b r_e n k := by kernel_rfl
theorem Jt9 (f : Nat) : Jg (Try.f156.body.get!) Jh6 = [] := by kernel_rfl
theorem Jua (f : Nat) : ∀ q ∈ Jg (Try.f156.body.get!) Jh6, q.Ok tau Try.prog 1 := by
  rw [Jt9 f]; intro q hq; cases hq
theorem Jph : Try.prog.funcs[156]? = some Try.f156 := by kernel_rfl
theorem Jpi : Try.f156.body = some (Try.f156.body.get!) := by kernel_rfl
theorem Jpj : Enters Try.prog 156 := enters_of Jph (by kernel_rfl) Jpi
noncomputable def JgA : List PV → List Ent → (Res → Option Res) → Option Res
  | [.ptr 0 [], .sc (.int .i64 n)], [.box false 186 (.st 186 [.ro 5 r_b_z r_b_f r_b, .sc (.int .i64 r_e)])], k => JmQ 0 r_b_z r_b_f r_b r_e n k
  | _, _, _ => none
noncomputable def Jze : Sig := { own := [], run := JgA }
theorem Jub : Ji tau Try.prog 156 Jze := JS Jr JmP Js Jph Jpi Jh6 [.ro] 1 [] JgA (Jua 0) fun xs es k res hr => by
  unfold JgA at hr
  split at hr
  · exact ⟨rfl, 0, (Jzd 0 _ _ _ _ _  _).trans hr⟩
  · cases hr
structure RS where
  b : List PV
  e : Int
def byB (l : List PV) : Bool := l.all fun p => p.isInt .u8 && (decide (0 ≤ p.int) && decide (p.int < 256))
def QJ : List Int → Int
  | [] => 0
  | x :: r => x + 256 * QJ r
def Wu (n : Nat) (s : RS) : Bool := s.e == 0 && Nat.ble n s.b.length
def J1 (n : Nat) (s : RS) : RS := bif Wu n s then ⟨s.b.drop n, 0⟩ else ⟨s.b, bif s.e == 0 then 8 else s.e⟩
def J0 (n : Nat) (s : RS) : List PV := bif Wu n s then s.b.take n else []
def QI (n : Nat) (s : RS) : Int := IntKind.i64.wrap (QJ (Jd (J0 n s)))
noncomputable def okS : Nat → RS → Bool := hid Wu
noncomputable def Qw : Nat → RS → List PV := hid J0
theorem JgB (n : Nat) (s : RS) : okS n s = Wu n s := by rw [okS, hid_eq]
theorem X1 (n : Nat) (s : RS) : Qw n s = J0 n s := by rw [Qw, hid_eq]
noncomputable def Jb : Nat → RS → RS := hid J1
noncomputable def Jt : Nat → RS → Int := hid QI
theorem Wb (n : Nat) (s : RS) : Jb n s = J1 n s := by rw [Jb, hid_eq]
theorem WF (n : Nat) (s : RS) : Jt n s = QI n s := by rw [Jt, hid_eq]
def Jcv (s : RS) : RS := J1 (QI 2 s).toNat (J1 2 s)
def VH (s : RS) : ByteArray := ⟨(Jq (J0 (QI 2 s).toNat (J1 2 s))).toArray⟩
noncomputable def J9 : RS → RS := hid Jcv
noncomputable def JQ : RS → ByteArray := hid VH
theorem VI (s : RS) : J9 s = Jcv s := by rw [J9, hid_eq]
theorem Jau (s : RS) : JQ s = VH s := by rw [JQ, hid_eq]
theorem Qx {l : List PV} : byB l = true ↔ Jh .u8 l = true ∧ ∀ x ∈ Jd l, 0 ≤ x ∧ x < 256 := by
  induction l with
  | nil => simp [byB, Jh, Jd]
  | cons p ps ih =>
    have e1 : byB (p :: ps) = ((p.isInt .u8 && (decide (0 ≤ p.int) && decide (p.int < 256))) && byB ps) := rfl
    have e2 : Jd (p :: ps) = p.int :: Jd ps := rfl
    have e3 : Jh .u8 (p :: ps) = (p.isInt .u8 && Jh .u8 ps) := rfl
    rw [e1, e2, e3]
    simp only [Bool.and_eq_true, decide_eq_true_eq, List.mem_cons, forall_eq_or_imp, ih]
    constructor
    · rintro ⟨⟨h1, h2⟩, h3, h4⟩
      exact ⟨⟨h1, h3⟩, h2, h4⟩
    · rintro ⟨⟨h1, h3⟩, h2, h4⟩
      exact ⟨⟨h1, h2⟩, h3, h4⟩
theorem Jkz {l : List PV} (h : byB l = true) (n : Nat) : byB (l.take n) = true := List.all_eq_true.2 fun p hp => List.all_eq_true.1 h p (List.mem_of_mem_take hp)
theorem JeZ {l : List PV} (h : byB l = true) (n : Nat) : byB (l.drop n) = true := List.all_eq_true.2 fun p hp => List.all_eq_true.1 h p (List.mem_of_mem_drop hp)
theorem JkA {l : List Int} : byB (pu .u8 l) = true ↔ ∀ x ∈ l, 0 ≤ x ∧ x < 256 := by rw [Qx]; simp
theorem XI {s : RS} (h : byB s.b = true) (n : Nat) : byB (J1 n s).b = true := by
  unfold J1; cases Wu n s
  · exact h
  · exact JeZ h n
theorem X2 {s : RS} (h : byB s.b = true) (n : Nat) : byB (J0 n s) = true := by
  unfold J0; cases Wu n s
  · rfl
  · exact Jkz h n
theorem Wn (n : Nat) (s : RS) : (J0 n s).length ≤ n := by
  unfold J0; cases Wu n s
  · exact Nat.zero_le _
  · simp; omega
theorem Xd : ∀ (l : List Int), (∀ x ∈ l, 0 ≤ x ∧ x < 256) → 0 ≤ QJ l ∧ QJ l < 256 ^ l.length
  | [], h => by simp [QJ]
  | x :: r, h => by
      have h1 := h x List.mem_cons_self
      have h2 := Xd r fun y hy => h y (List.mem_cons_of_mem _ hy)
      simp only [QJ, List.length_cons, Int.pow_succ]
      generalize (256 : Int) ^ r.length = B at *
      omega
theorem W3 {s : RS} (h : byB s.b = true) {n : Nat} (hn : n ≤ 2) : 0 ≤ QI n s ∧ QI n s < 65536 := by
  have h1 := Xd (Jd (J0 n s)) (Qx.1 (X2 h n)).2
  have h2 : (Jd (J0 n s)).length ≤ 2 := by rw [Qu]; exact Nat.le_trans (Wn n s) hn
  have h3 : (256 : Int) ^ (Jd (J0 n s)).length ≤ 65536 := by
    generalize (Jd (J0 n s)).length = m at *
    match m, h2 with
    | 0, _ => decide
    | 1, _ => decide
    | 2, _ => decide
  unfold QI
  rw [wrap_i64 (by omega) (by omega)]; omega
structure RT where
  B : List PV
  P : Int
  e : Int
def RT.view (t : RT) : RS := ⟨t.B.drop t.P.toNat, t.e⟩
def okT (t : RT) : Bool := decide (0 ≤ t.P) && (decide (t.P ≤ (t.B.length : Int)) && (byB t.B && Nat.ble t.B.length 1000000000))
def QE (n : Nat) (t : RT) : RT := bif Wu n t.view then ⟨t.B, ((t.P.toNat + n : Nat) : Int), 0⟩ else ⟨t.B, t.P, bif t.e == 0 then 8 else t.e⟩
noncomputable def Ja : Nat → RT → RT := hid QE
noncomputable def Jw : Nat → RT → Int := hid fun n t => QI n t.view
def VJ (t : RT) : RT := QE (QI 2 t.view).toNat (QE 2 t)
noncomputable def J3 : RT → RT := hid VJ
noncomputable def JJ : RT → ByteArray := hid fun t => VH t.view
theorem Wv (n : Nat) (t : RT) : Ja n t = QE n t := by rw [Ja, hid_eq]
theorem Jav (n : Nat) (t : RT) : Jw n t = QI n t.view := by rw [Jw, hid_eq]
theorem Jdz (t : RT) : J3 t = VJ t := by rw [J3, hid_eq]
theorem Je0 (t : RT) : JJ t = VH t.view := by rw [JJ, hid_eq]
theorem XJ (n : Nat) (t : RT) : (QE n t).view = J1 n t.view := by
  unfold QE J1
  cases Wu n t.view with
  | true => simp only [cond_true, RT.view, Int.toNat_natCast, List.drop_drop]
  | false => simp only [cond_false, RT.view]
theorem JkB (t : RT) : (VJ t).view = Jcv t.view := by simp only [VJ, Jcv, XJ]
@[simp] theorem Wc (n : Nat) (t : RT) : Jw n t = Jt n t.view := by rw [Jav, WF]
@[simp] theorem Qe (n : Nat) (t : RT) : (Ja n t).view = Jb n t.view := by rw [Wv, Wb, XJ]
@[simp] theorem Jcw (t : RT) : (J3 t).view = J9 t.view := by rw [Jdz, VI, JkB]
@[simp] theorem Jcx (t : RT) : JJ t = JQ t.view := by rw [Je0, Jau]
theorem YT {t : RT} (h : okT t = true) (n : Nat) : okT (QE n t) = true := by
  have h' := h
  simp only [okT, Bool.and_eq_true, decide_eq_true_eq, Nat.ble_eq] at h ⊢
  unfold QE
  cases hk : Wu n t.view with
  | true =>
    simp only [cond_true]
    have hn : n ≤ (t.B.drop t.P.toNat).length := by
      simp only [Wu, RT.view, Bool.and_eq_true, Nat.ble_eq] at hk; exact hk.2
    rw [List.length_drop] at hn
    refine ⟨by omega, by omega, h.2.2⟩
  | false => exact h
theorem JmR {t : RT} (h : okT t = true) : okT (VJ t) = true := YT (YT h _) _
@[simp] theorem Qr {t : RT} (h : okT t = true) (n : Nat) : okT (Ja n t) = true := by rw [Wv]; exact YT h n
@[simp] theorem Je1 {t : RT} (h : okT t = true) : okT (J3 t) = true := by rw [Jdz]; exact JmR h
theorem JkC {s : RS} (h : s.e ≠ 0) (n : Nat) : Wu n s = false := by
  unfold Wu
  have : (s.e == 0) = false := by simpa using h
  rw [this]; rfl
theorem VK {s : RS} (h : s.e ≠ 0) (n : Nat) : J1 n s = s := by
  unfold J1
  have : (s.e == 0) = false := by simpa using h
  rw [JkC h, cond_false, this, cond_false]
theorem JjM {t : RT} (h : t.e ≠ 0) (n : Nat) : QE n t = t := by
  unfold QE
  have : (t.e == 0) = false := by simpa using h
  rw [JkC (s := t.view) h, cond_false, this, cond_false]
-- FN (*code.Reader).take
abbrev rdP (z f : Bool) (s : RS) : Ent := .box false 186 (.st 186 [.ro 5 z f s.b, .sc (.int .i64 s.e)])
noncomputable def JdA : List PV → List Ent → (Res → Option Res) → Option Res
  | [.ptr 0 [], .sc (.int .i64 n)], [.box false 186 (.st 186 [.ro 5 z f b, .sc (.int .i64 e)])], k =>
    bif (!z || f) && decide (0 ≤ n) then k ⟨.ro 5 (!okS n.toNat ⟨b, e⟩ || z) (!okS n.toNat ⟨b, e⟩ || z) (Qw n.toNat ⟨b, e⟩), [rdP z f (Jb n.toNat ⟨b, e⟩)], []⟩ else none
  | _, _, _ => none
noncomputable def JkD : Sig := { own := [], run := JdA }
theorem JmS (z f : Bool) (b : List PV) (e n : Int) (hz : (!z || f) = true) (hn : 0 ≤ n) (k : Res → Option Res) :
    JmQ 0 z f b e n k = k ⟨.ro 5 (!okS n.toNat ⟨b, e⟩ || z) (!okS n.toNat ⟨b, e⟩ || z) (Qw n.toNat ⟨b, e⟩), [rdP z f (Jb n.toNat ⟨b, e⟩)], []⟩ := by
  rw [JgB, X1, Wb]
  have hzf : (z || f) = f := by cases z <;> cases f <;> simp_all
  have hz2 : (z || f && false) = z := by cases z <;> cases f <;> rfl
  unfold JmQ
  by_cases c1 : n > zi b.length
  · have hk : Nat.ble n.toNat b.length = false := by
      cases h : Nat.ble n.toNat b.length with
      | false => rfl
      | true => rw [Nat.ble_eq] at h; simp only [zi] at c1; omega
    rw [Jc (by simpa using c1)]
    by_cases c2 : e = 0
    · subst c2
      simp only [beq_self_eq_true, cond_true]
      simp [Wu, J0, J1, hk]
    · have hb : (e == 0) = false := by simpa using c2
      have hb2 : (e != 0) = true := by simpa using c2
      simp only [hb, hb2, cond_true, cond_false]
      simp [Wu, J0, J1, hb]
  · rw [JK (by simpa using c1)]
    by_cases c2 : e = 0
    · subst c2
      have hk : Nat.ble n.toNat b.length = true := by rw [Nat.ble_eq]; simp only [zi] at c1; omega
      have hk' : n.toNat ≤ b.length := by rw [Nat.ble_eq] at hk; exact hk
      have h00 : ((0 : Int) != 0) = false := by decide
      simp only [h00, cond_false]
      rw [Jc (by simp; omega), Jc (by simp; omega)]
      simp [Wu, J0, J1, hk, hzf, hz2]
    · have hb : (e == 0) = false := by simpa using c2
      have hb2 : (e != 0) = true := by simpa using c2
      simp only [hb2, cond_true]
      simp [Wu, J0, J1, hb]
theorem JkE : Ji tau Try.prog 156 JkD := Jub.of fun xs es k res hr => by
  change JdA xs es k = some res at hr
  unfold JdA at hr
  split at hr
  · obtain ⟨hc, hr⟩ := JL hr
    simp only [Bool.and_eq_true, decide_eq_true_eq] at hc
    exact (JmS _ _ _ _ _ hc.1 hc.2 _).trans hr
  · cases hr
def JbZ : Nat := 27
noncomputable def JkF : Fns := JD 156 JkD (F0)
theorem Jh7 : Jz tau Try.prog JkF := (JG).add JkE Jpj
noncomputable def Gw : Code := QB (Try.f155.body.get!) [1, 1, 0, 1, 0, 0]
def WG : Nm := [(5, .any), (10, .any), (11, .any), (12, .any)]
def Xe : Nm := [(5, .any)]
def Jbb : An := (.seq .leaf (.seq (.cond .leaf .leaf) (.seq (.block none (.seq .leaf .leaf)) .leaf)))
def Jh8 (r0 : QZ) : An := (.seq .leaf (.seq .leaf (.seq (.seq .leaf (.block none (.sum WG JbZ r0))) (.seq .leaf .leaf))))
noncomputable def YU (f : Nat) (rc : Int → Bool → Bool → List PV → Int → Int → Bool → Bool → List PV → Int → Option Res) (k0 : Int → Bool → Bool → List PV → Int → Option Res) (v0 : Int) (v1 : Bool) (v2 : Bool) (v3 : List PV) (v4 : Int) (v5 : Int) (v6 : Bool) (v7 : Bool) (v8 : List PV) (v9 : Int) : Option Res := bif decide (v5 < v4) then bif decide (0 ≤ v5) && decide (v5 < zi v3.length) && PV.isInt IntKind.u8 (v3.getD v5.toNat PV.top) && true then bif decide (0 ≤ IntKind.i64.wrap (8 * v5)) && true then rc (JC BinOp.or IntKind.u64 v0 (WA IntKind.u64 (IntKind.u64.wrap (v3.getD v5.toNat PV.top).int) (IntKind.i64.wrap (8 * v5)))) v1 v2 v3 v4 (IntKind.i64.wrap (v5 + 1)) v6 v7 v8 v9 else none else none else k0 v0 v6 v7 v8 v9
noncomputable def X3 (f : Nat) (k0 : Int → Bool → Bool → List PV → Int → Option Res) : Nat → Int → Bool → Bool → List PV → Int → Int → Bool → Bool → List PV → Int → Option Res
  | 0, _, _, _, _, _, _, _, _, _, _ => none
  | n + 1, v0, v1, v2, v3, v4, v5, v6, v7, v8, v9 => YU f (X3 f k0 n) k0 v0 v1 v2 v3 v4 v5 v6 v7 v8 v9
theorem JkG (f : Nat) (k : Kont) (n : Nat) (v0 : Int) (v1 : Bool) (v2 : Bool) (v3 : List PV) (v4 : Int) (v5 : Int) (v6 : Bool) (v7 : Bool) (v8 : List PV) (v9 : Int) : Jo tau 1 WG (fun s k => ev tau JkF 1 0 Gw (Jbb ) s k) (n + 1) (Je WG JbZ [.sc (.int .u64 v0), .ro 5 v1 v2 v3, .sc (.int .i64 v4), .sc (.int .i64 v5)] [(0, .box false 186 (PV.st 186 [.ro 5 v6 v7 v8, .sc (.int .i64 v9)]))]) (Jv tau 1 Xe k) = YU f (fun v0 v1 v2 v3 v4 v5 v6 v7 v8 v9 => Jo tau 1 WG (fun s k => ev tau JkF 1 0 Gw (Jbb ) s k) n (Je WG JbZ [.sc (.int .u64 v0), .ro 5 v1 v2 v3, .sc (.int .i64 v4), .sc (.int .i64 v5)] [(0, .box false 186 (PV.st 186 [.ro 5 v6 v7 v8, .sc (.int .i64 v9)]))]) (Jv tau 1 Xe k)) (fun x0 x1 x2 x3 x4 => k (Ex.exit 0) (Je Xe JbZ [.sc (.int .u64 x0)] [(0, .box false 186 (PV.st 186 [.ro 5 x1 x2 x3, .sc (.int .i64 x4)]))])) v0 v1 v2 v3 v4 v5 v6 v7 v8 v9 := by kernel_rfl
theorem Je2 (f : Nat) (k : Kont) : ∀ (n : Nat) (v0 : Int) (v1 : Bool) (v2 : Bool) (v3 : List PV) (v4 : Int) (v5 : Int) (v6 : Bool) (v7 : Bool) (v8 : List PV) (v9 : Int), Jo tau 1 WG (fun s k => ev tau JkF 1 0 Gw (Jbb ) s k) n (Je WG JbZ [.sc (.int .u64 v0), .ro 5 v1 v2 v3, .sc (.int .i64 v4), .sc (.int .i64 v5)] [(0, .box false 186 (PV.st 186 [.ro 5 v6 v7 v8, .sc (.int .i64 v9)]))]) (Jv tau 1 Xe k) = X3 f (fun x0 x1 x2 x3 x4 => k (Ex.exit 0) (Je Xe JbZ [.sc (.int .u64 x0)] [(0, .box false 186 (PV.st 186 [.ro 5 x1 x2 x3, .sc (.int .i64 x4)]))])) n v0 v1 v2 v3 v4 v5 v6 v7 v8 v9 | 0, _, _, _, _, _, _, _, _, _, _ => rfl | n + 1, v0, v1, v2, v3, v4, v5, v6, v7, v8, v9 => (JkG f k n v0 v1 v2 v3 v4 v5 v6 v7 v8 v9).trans (congrArg (fun r => YU f r (fun x0 x1 x2 x3 x4 => k (Ex.exit 0) (Je Xe JbZ [.sc (.int .u64 x0)] [(0, .box false 186 (PV.st 186 [.ro 5 x1 x2 x3, .sc (.int .i64 x4)]))])) v0 v1 v2 v3 v4 v5 v6 v7 v8 v9) (by funext v0 v1 v2 v3 v4 v5 v6 v7 v8 v9; exact Je2 f k n v0 v1 v2 v3 v4 v5 v6 v7 v8 v9))
noncomputable def Z5 (f : Nat) : List PV → List (Nat × Ent) → Kont → Option Res
  | [.sc (.int .u64 v0), .ro 5 v1 v2 v3, .sc (.int .i64 v4),
  PV.sc
    (Value.int IntKind.i64
      v5)], [(0,
    Ent.box false 186
      (PV.st 186
        [.ro 5 v6 v7 v8,
          PV.sc
            (Value.int IntKind.i64
              v9)]))], k => X3 f (fun x0 x1 x2 x3 x4 => k (Ex.exit
  0) (Je Xe JbZ [.sc (.int .u64 x0)] [(0, .box false 186 (PV.st 186 [.ro 5 x1 x2 x3, .sc (.int .i64 x4)]))])) f v0 v1 v2 v3 v4 v5 v6 v7 v8 v9
  | _, _, _ => none
theorem JmT (f : Nat) : Jg Gw Jbb = [] := by kernel_rfl
theorem Jrs (f : Nat) : (Item.l Gw WG JbZ (Z5 f)).Ok tau Try.prog 1 := JI Jr Jh7 Js (x := Jbb) (nm2 := Xe) (Jp _ _ (by rw [JmT f]; intro q hq; cases hq)) fun vs hp k res hr => by
  unfold Z5 at hr
  split at hr
  · exact ⟨f, 0, (Je2 f _ f _ _ _ _ _ _ _ _ _ _ ).trans hr⟩
  · cases hr
noncomputable def Jrt (f : Nat) (r_b_z : Bool) (r_b_f : Bool) (r_b : List PV) (r_e : Int) (n : Int) (k : Res → Option Res) : Option Res := bif (!r_b_z || r_b_f) && decide (0 ≤ n) then X3 f (fun x0_0 x1_0 x2_0 x3_0 x4_0 => k (Res.mk (.sc (.int .i64 (IntKind.i64.wrap x0_0))) [.box false 186 (PV.st 186 [.ro 5 x1_0 x2_0 x3_0, .sc (.int .i64 x4_0)])] [])) f (0) (!okS n.toNat (RS.mk r_b r_e) || r_b_z) (!okS n.toNat (RS.mk r_b r_e) || r_b_z) (Qw n.toNat (RS.mk r_b r_e)) (zi (Qw n.toNat (RS.mk r_b r_e)).length) (0) r_b_z r_b_f ((Jb n.toNat (RS.mk r_b r_e)).b) ((Jb n.toNat (RS.mk r_b r_e)).e) else none
theorem Jzf (f : Nat) (r_b_z : Bool) (r_b_f : Bool) (r_b : List PV) (r_e : Int) (n : Int) (k : Res → Option Res) : JM tau JkF Try.f155 (Try.f155.body.get!) (Jh8 (Z5 f)) [.ro] 0 [.ptr 0 [], .sc (.int .i64 n)] [.box false 186 (.st 186 [.ro 5 r_b_z r_b_f r_b, .sc (.int .i64 r_e)])] k = Jrt f r_b_z r_b_f r_b r_e n k := by kernel_rfl
theorem Juc (f : Nat) : Jg (Try.f155.body.get!) (Jh8 (Z5 f)) = [.l Gw WG JbZ (Z5 f)] := by kernel_rfl
theorem Jud (f : Nat) : ∀ q ∈ Jg (Try.f155.body.get!) (Jh8 (Z5 f)), q.Ok tau Try.prog 1 := by
  rw [Juc f]; simp only [List.forall_mem_cons, List.not_mem_nil, false_implies, implies_true, and_true]; exact Jrs f
theorem Jpk : Try.prog.funcs[155]? = some Try.f155 := by kernel_rfl
theorem Jpl : Try.f155.body = some (Try.f155.body.get!) := by kernel_rfl
theorem JkH : Enters Try.prog 155 := enters_of Jpk (by kernel_rfl) Jpl
-- FN (*code.Reader).number
theorem Jcy : ∀ (l : List Int) (x : Int), QJ (l ++ [x]) = QJ l + x * 256 ^ l.length
  | [], x => by simp [QJ]
  | y :: r, x => by
      simp only [List.cons_append, QJ, Jcy r x, List.length_cons, Int.pow_succ]
      have : x * (256 ^ r.length * 256) = 256 * (x * 256 ^ r.length) := by rw [Int.mul_comm 256, Int.mul_assoc]
      omega
theorem JgC (i : Nat) : (256 : Int) ^ i = 2 ^ (8 * i) := by rw [Int.pow_mul]; rfl
theorem Je3 {v y : Int} {j : Nat} (hj : j ≤ 64) (hv0 : 0 ≤ v) (hv : v < 2 ^ j) (hy0 : 0 ≤ y) (hy : y * 2 ^ j < 2 ^ 64) : JC .or .u64 v (y * 2 ^ j) = v + y * 2 ^ j := by
  obtain ⟨a, rfl⟩ := Int.eq_ofNat_of_zero_le hv0
  obtain ⟨b, rfl⟩ := Int.eq_ofNat_of_zero_le hy0
  have e1 : ((b : Int)) * 2 ^ j = ((b * 2 ^ j : Nat) : Int) := by rw [Int.natCast_mul, Int.natCast_pow]; rfl
  have e2 : ((2 : Int)) ^ j = ((2 ^ j : Nat) : Int) := by rw [Int.natCast_pow]; rfl
  have e3 : ((2 : Int)) ^ 64 = ((2 ^ 64 : Nat) : Int) := by rw [Int.natCast_pow]; rfl
  rw [e2] at hv
  rw [e1, e3] at hy
  have ha : a < 2 ^ j := Int.ofNat_lt.1 hv
  have hb : b * 2 ^ j < 2 ^ 64 := Int.ofNat_lt.1 hy
  rw [e1]
  have hor : a ||| b * 2 ^ j = a + b * 2 ^ j := by
    have h := Nat.shiftLeft_add_eq_or_of_lt ha b
    rw [Nat.shiftLeft_eq] at h
    rw [Nat.or_comm, ← h, Nat.add_comm]
  have ha2 : a < 2 ^ 64 := Nat.lt_of_lt_of_le ha (Nat.pow_le_pow_right (by omega) hj)
  have hsum : a + b * 2 ^ j < 2 ^ 64 := by rw [← hor]; exact Nat.or_lt_two_pow ha2 hb
  generalize hc : b * 2 ^ j = c at *
  have ht : (BitVec.ofInt 64 (a : Int) ||| BitVec.ofInt 64 (c : Int)).toNat = a + c := by
    rw [BitVec.toNat_or, BitVec.ofInt_natCast, BitVec.ofInt_natCast, BitVec.toNat_ofNat, BitVec.toNat_ofNat, Nat.mod_eq_of_lt ha2, Nat.mod_eq_of_lt hb, hor]
  show IntKind.u64.wrap ((BitVec.ofInt 64 (a : Int) ||| BitVec.ofInt 64 (c : Int)).toNat : Int) = _
  rw [ht, Qv]
  have h64 : (2 : Nat) ^ 64 = 18446744073709551616 := by decide
  rw [h64] at hsum
  omega
theorem JkI {x : Int} (h0 : 0 ≤ x) (h1 : x < 256) {i : Nat} (hi : i < 8) : WA .u64 (IntKind.u64.wrap x) (8 * (i : Int)) = x * 2 ^ (8 * i) := by
  rw [Qv, Int.emod_eq_of_lt h0 (by omega), WA, Qv]
  have : min (8 * (i : Int)).toNat IntKind.u64.bits = 8 * i := by
    have : IntKind.u64.bits = 64 := rfl
    rw [this]; omega
  rw [this]
  have hp : (2 : Int) ^ (8 * i) ≤ 2 ^ 56 := by
    have h : (2 ^ (8 * i) : Nat) ≤ 2 ^ 56 := Nat.pow_le_pow_right (by omega) (by omega)
    have e2 : ((2 : Int)) ^ (8 * i) = ((2 ^ (8 * i) : Nat) : Int) := by rw [Int.natCast_pow]; rfl
    have e3 : ((2 : Int)) ^ 56 = ((2 ^ 56 : Nat) : Int) := by rw [Int.natCast_pow]; rfl
    rw [e2, e3]; exact Int.ofNat_le.2 h
  have hp0 : (0 : Int) ≤ 2 ^ (8 * i) := Int.le_of_lt (by have e2 : ((2 : Int)) ^ (8 * i) = ((2 ^ (8 * i) : Nat) : Int) := by rw [Int.natCast_pow]; rfl
                                                         rw [e2]; exact Int.ofNat_lt.2 (Nat.two_pow_pos _))
  have h56 : (2 : Int) ^ 56 = 72057594037927936 := by decide
  rw [h56] at hp
  have hm : x * 2 ^ (8 * i) ≤ 255 * 2 ^ (8 * i) := Int.mul_le_mul_of_nonneg_right (by omega) hp0
  have hm0 : 0 ≤ x * 2 ^ (8 * i) := Int.mul_nonneg h0 hp0
  exact Int.emod_eq_of_lt hm0 (by omega)
theorem JkJ (L : List Int) (hL : ∀ x ∈ L, 0 ≤ x ∧ x < 256) (h8 : L.length ≤ 8) (f : Nat) (k0 : Int → Bool → Bool → List PV → Int → Option Res) (a b c d : Bool) (R : List PV) (e : Int) : ∀ (dd i n : Nat), i + dd = L.length → dd < n →
    X3 f k0 n (QJ (L.take i)) a b (pu .u8 L) (L.length : Int) (i : Int) c d R e = k0 (QJ L) c d R e
  | 0, i, n + 1, h, hn => by
      obtain rfl : i = L.length := by omega
      simp only [X3, YU, List.take_length]
      exact JK (by simp)
  | dd + 1, i, n + 1, h, hn => by
      have g1 : ((i : Int)).toNat = i := by omega
      have h1 : IntKind.i64.wrap ((i : Int) + 1) = ((i + 1 : Nat) : Int) := by rw [wrap_i64 (by omega) (by omega)]; omega
      have h2 : IntKind.i64.wrap (8 * (i : Int)) = 8 * (i : Int) := wrap_i64 (by omega) (by omega)
      have hi : i < L.length := by omega
      have hx := hL (L.getD i 0) (by rw [List.getD_eq_getElem?_getD, List.getElem?_eq_getElem hi]; exact List.getElem_mem hi)
      simp only [X3, YU, g1, h1, h2]
      rw [JV hi, Qn hi]
      refine (Jc (by simp; omega)).trans ((Jc (by simp [zi]; omega)).trans ((Jc (by simp; omega)).trans ?_))
      have ht : L.take (i + 1) = L.take i ++ [L.getD i 0] := by
        rw [List.take_add_one, List.getD_eq_getElem?_getD, List.getElem?_eq_getElem hi]; rfl
      have hb := Xd (L.take i) fun x hx => hL x (List.mem_of_mem_take hx)
      have hlen : (L.take i).length = i := by rw [List.length_take]; omega
      rw [hlen, JgC] at hb
      have hs := JkI hx.1 hx.2 (i := i) (by omega)
      have hlt : L.getD i 0 * 2 ^ (8 * i) < 2 ^ 64 := by
        have hp : (2 : Int) ^ (8 * i) ≤ 2 ^ 56 := by
          have h : (2 ^ (8 * i) : Nat) ≤ 2 ^ 56 := Nat.pow_le_pow_right (by omega) (by omega)
          have e2 : ((2 : Int)) ^ (8 * i) = ((2 ^ (8 * i) : Nat) : Int) := by rw [Int.natCast_pow]; rfl
          have e3 : ((2 : Int)) ^ 56 = ((2 ^ 56 : Nat) : Int) := by rw [Int.natCast_pow]; rfl
          rw [e2, e3]; exact Int.ofNat_le.2 h
        have hp0 : (0 : Int) ≤ 2 ^ (8 * i) := by omega
        have h56 : (2 : Int) ^ 56 = 72057594037927936 := by decide
        have h64 : (2 : Int) ^ 64 = 18446744073709551616 := by decide
        rw [h56] at hp; rw [h64]
        have hm : L.getD i 0 * 2 ^ (8 * i) ≤ 255 * 2 ^ (8 * i) := Int.mul_le_mul_of_nonneg_right (by omega) hp0
        omega
      rw [hs, Je3 (by omega) hb.1 hb.2 hx.1 hlt]
      have hn1 : QJ (L.take i) + L.getD i 0 * 2 ^ (8 * i) = QJ (L.take (i + 1)) := by
        rw [ht, Jcy, hlen, JgC]
      rw [hn1]
      exact JkJ L hL h8 f k0 a b c d R e dd (i + 1) n (by omega) (by omega)
noncomputable def JdB : List PV → List Ent → (Res → Option Res) → Option Res
  | [.ptr 0 [], .sc (.int .i64 n)], [.box false 186 (.st 186 [.ro 5 z f b, .sc (.int .i64 e)])], k =>
    bif (!z || f) && (decide (0 ≤ n) && decide (n ≤ 8)) && byB b then k ⟨.sc (.int .i64 (Jt n.toNat ⟨b, e⟩)), [rdP z f (Jb n.toNat ⟨b, e⟩)], []⟩ else none
  | _, _, _ => none
noncomputable def Jh9 : Sig := { own := [], run := JdB }
theorem JmU (z f : Bool) (b : List PV) (e n : Int) (hz : (!z || f) = true) (hn : 0 ≤ n) (hn8 : n ≤ 8) (hb : byB b = true) (k : Res → Option Res) :
    Jrt 20 z f b e n k = k ⟨.sc (.int .i64 (Jt n.toNat ⟨b, e⟩)), [rdP z f (Jb n.toNat ⟨b, e⟩)], []⟩ := by
  unfold Jrt
  rw [Jc (by rw [hz]; simpa using hn), WF, X1]
  have ho : byB (J0 n.toNat ⟨b, e⟩) = true := X2 hb _
  have hoi := Qx.1 ho
  have hl : (Jd (J0 n.toNat ⟨b, e⟩)).length ≤ 8 := by rw [Qu]; exact Nat.le_trans (Wn _ _) (by omega)
  have hL := JkJ (Jd (J0 n.toNat ⟨b, e⟩)) hoi.2 hl 20 (fun x0_0 x1_0 x2_0 x3_0 x4_0 => k (Res.mk (.sc (.int .i64 (IntKind.i64.wrap x0_0))) [.box false 186 (.st 186 [.ro 5 x1_0 x2_0 x3_0, .sc (.int .i64 x4_0)])] [])) (!okS n.toNat ⟨b, e⟩ || z) (!okS n.toNat ⟨b, e⟩ || z) z f (Jb n.toNat ⟨b, e⟩).b (Jb n.toNat ⟨b, e⟩).e (Jd (J0 n.toNat ⟨b, e⟩)).length 0 20 (by omega) (by omega)
  rw [← Qb hoi.1, Qu] at hL
  simp only [List.take_zero, QJ] at hL
  exact hL
theorem JgD : Ji tau Try.prog 155 Jh9 := Ji.mk' fun xs es k res hl hr => by
  change JdB xs es k = some res at hr
  unfold JdB at hr
  split at hr
  · rename_i n z f b e
    obtain ⟨hc, hr⟩ := JL hr
    simp only [Bool.and_eq_true, decide_eq_true_eq] at hc
    exact QQ Jr Jh7 Js Jpk Jpl (Jh8 (Z5 20)) [.ro] 1 0 (Jud 20) hl rfl ((Jzf 20 z f b e n k).trans ((JmU z f b e n hc.1.1 hc.1.2.1 hc.1.2.2 hc.2 k).trans hr))
  · cases hr
noncomputable def Jue : Fns := JD 155 Jh9 (F0)
theorem JmV : Jz tau Try.prog Jue := (JG).add JgD JkH
def Jia : An := (.seq .leaf (.seq .leaf .leaf))
noncomputable def Juf (f : Nat) (r_b_z : Bool) (r_b_f : Bool) (r_b : List PV) (r_e : Int) (k : Res → Option Res) : Option Res := bif (!r_b_z || r_b_f) && true && byB r_b then k (Res.mk (.sc (.int .i64 (Jt 8 (RS.mk r_b r_e)))) [.box false 186 (PV.st 186 [.ro 5 r_b_z r_b_f (Jb 8 (RS.mk r_b r_e)).b, .sc (.int .i64 (Jb 8 (RS.mk r_b r_e)).e)])] []) else none
theorem Jzg (f : Nat) (r_b_z : Bool) (r_b_f : Bool) (r_b : List PV) (r_e : Int) (k : Res → Option Res) : JM tau Jue Try.f132 (Try.f132.body.get!) Jia [.ro] 0 [.ptr 0 []] [.box false 186 (.st 186 [.ro 5 r_b_z r_b_f r_b, .sc (.int .i64 r_e)])] k = Juf f r_b_z r_b_f r_b r_e k := by kernel_rfl
theorem Jug (f : Nat) : Jg (Try.f132.body.get!) Jia = [] := by kernel_rfl
theorem Juh (f : Nat) : ∀ q ∈ Jg (Try.f132.body.get!) Jia, q.Ok tau Try.prog 1 := by
  rw [Jug f]; intro q hq; cases hq
theorem Jpm : Try.prog.funcs[132]? = some Try.f132 := by kernel_rfl
theorem Jpn : Try.f132.body = some (Try.f132.body.get!) := by kernel_rfl
theorem Jpo : Enters Try.prog 132 := enters_of Jpm (by kernel_rfl) Jpn
noncomputable def JgE : List PV → List Ent → (Res → Option Res) → Option Res
  | [.ptr 0 []], [.box false 186 (.st 186 [.ro 5 r_b_z r_b_f r_b, .sc (.int .i64 r_e)])], k => Juf 0 r_b_z r_b_f r_b r_e k
  | _, _, _ => none
noncomputable def Jru : Sig := { own := [], run := JgE }
theorem Jpp : Ji tau Try.prog 132 Jru := JS Jr JmV Js Jpm Jpn Jia [.ro] 1 [] JgE (Juh 0) fun xs es k res hr => by
  unfold JgE at hr
  split at hr
  · exact ⟨rfl, 0, (Jzg 0 _ _ _ _  _).trans hr⟩
  · cases hr
noncomputable def Jui : Fns := JD 155 Jh9 (F0)
theorem JmW : Jz tau Try.prog Jui := (JG).add JgD JkH
def Jib : An := (.seq .leaf (.seq .leaf .leaf))
noncomputable def Juj (f : Nat) (r_b_z : Bool) (r_b_f : Bool) (r_b : List PV) (r_e : Int) (k : Res → Option Res) : Option Res := bif (!r_b_z || r_b_f) && true && byB r_b then k (Res.mk (.sc (.int .i64 (Jt 1 (RS.mk r_b r_e)))) [.box false 186 (PV.st 186 [.ro 5 r_b_z r_b_f (Jb 1 (RS.mk r_b r_e)).b, .sc (.int .i64 (Jb 1 (RS.mk r_b r_e)).e)])] []) else none
theorem Jzh (f : Nat) (r_b_z : Bool) (r_b_f : Bool) (r_b : List PV) (r_e : Int) (k : Res → Option Res) : JM tau Jui Try.f133 (Try.f133.body.get!) Jib [.ro] 0 [.ptr 0 []] [.box false 186 (.st 186 [.ro 5 r_b_z r_b_f r_b, .sc (.int .i64 r_e)])] k = Juj f r_b_z r_b_f r_b r_e k := by kernel_rfl
theorem Juk (f : Nat) : Jg (Try.f133.body.get!) Jib = [] := by kernel_rfl
theorem Jul (f : Nat) : ∀ q ∈ Jg (Try.f133.body.get!) Jib, q.Ok tau Try.prog 1 := by
  rw [Juk f]; intro q hq; cases hq
theorem Jpq : Try.prog.funcs[133]? = some Try.f133 := by kernel_rfl
theorem Jpr : Try.f133.body = some (Try.f133.body.get!) := by kernel_rfl
theorem Jps : Enters Try.prog 133 := enters_of Jpq (by kernel_rfl) Jpr
noncomputable def JgF : List PV → List Ent → (Res → Option Res) → Option Res
  | [.ptr 0 []], [.box false 186 (.st 186 [.ro 5 r_b_z r_b_f r_b, .sc (.int .i64 r_e)])], k => Juj 0 r_b_z r_b_f r_b r_e k
  | _, _, _ => none
noncomputable def Jrv : Sig := { own := [], run := JgF }
theorem Jpt : Ji tau Try.prog 133 Jrv := JS Jr JmW Js Jpq Jpr Jib [.ro] 1 [] JgF (Jul 0) fun xs es k res hr => by
  unfold JgF at hr
  split at hr
  · exact ⟨rfl, 0, (Jzh 0 _ _ _ _  _).trans hr⟩
  · cases hr
noncomputable def Jum : Fns := JD 156 JkD (JD 155 Jh9 (F0))
theorem JmX : Jz tau Try.prog Jum := ((JG).add JgD JkH).add JkE Jpj
def Jic : An := (.seq .leaf (.seq .leaf (.seq .leaf .leaf)))
noncomputable def JmY (f : Nat) (r_b_z : Bool) (r_b_f : Bool) (r_b : List PV) (r_e : Int) (k : Res → Option Res) : Option Res := bif (!r_b_z || r_b_f) && true && byB r_b then bif (!r_b_z || r_b_f) && decide (0 ≤ Jt 2 (RS.mk r_b r_e)) then bif Jh IntKind.u8 (Qw (Jt 2 (RS.mk r_b r_e)).toNat (Jb 2 (RS.mk r_b r_e))) && true then k (Res.mk (.sc (.string (ByteArray.mk (Array.mk (Jq (!okS (Jt 2 (RS.mk r_b r_e)).toNat (RS.mk (Jb 2 (RS.mk r_b r_e)).b (Jb 2 (RS.mk r_b r_e)).e) || r_b_z, Qw (Jt 2 (RS.mk r_b r_e)).toNat (Jb 2 (RS.mk r_b r_e))).snd))))) [.box false 186 (PV.st 186 [.ro 5 r_b_z r_b_f (Jb (Jt 2 (RS.mk r_b r_e)).toNat (Jb 2 (RS.mk r_b r_e))).b, .sc (.int .i64 (Jb (Jt 2 (RS.mk r_b r_e)).toNat (Jb 2 (RS.mk r_b r_e))).e)])] []) else none else none else none
theorem Jzi (f : Nat) (r_b_z : Bool) (r_b_f : Bool) (r_b : List PV) (r_e : Int) (k : Res → Option Res) : JM tau Jum Try.f135 (Try.f135.body.get!) Jic [.ro] 0 [.ptr 0 []] [.box false 186 (.st 186 [.ro 5 r_b_z r_b_f r_b, .sc (.int .i64 r_e)])] k = JmY f r_b_z r_b_f r_b r_e k := by kernel_rfl
theorem Jun (f : Nat) : Jg (Try.f135.body.get!) Jic = [] := by kernel_rfl
theorem Juo (f : Nat) : ∀ q ∈ Jg (Try.f135.body.get!) Jic, q.Ok tau Try.prog 1 := by
  rw [Jun f]; intro q hq; cases hq
theorem Jpu : Try.prog.funcs[135]? = some Try.f135 := by kernel_rfl
theorem Jpv : Try.f135.body = some (Try.f135.body.get!) := by kernel_rfl
theorem Jpw : Enters Try.prog 135 := enters_of Jpu (by kernel_rfl) Jpv
noncomputable def JgG : List PV → List Ent → (Res → Option Res) → Option Res
  | [.ptr 0 []], [.box false 186 (.st 186 [.ro 5 r_b_z r_b_f r_b, .sc (.int .i64 r_e)])], k => JmY 0 r_b_z r_b_f r_b r_e k
  | _, _, _ => none
noncomputable def Jzj : Sig := { own := [], run := JgG }
theorem Jup : Ji tau Try.prog 135 Jzj := JS Jr JmX Js Jpu Jpv Jic [.ro] 1 [] JgG (Juo 0) fun xs es k res hr => by
  unfold JgG at hr
  split at hr
  · exact ⟨rfl, 0, (Jzi 0 _ _ _ _  _).trans hr⟩
  · cases hr
-- FN (*code.Reader).Text
noncomputable def JdC : List PV → List Ent → (Res → Option Res) → Option Res
  | [.ptr 0 []], [.box false 186 (.st 186 [.ro 5 z f b, .sc (.int .i64 e)])], k =>
    bif (!z || f) && byB b then k ⟨.sc (.string (JQ ⟨b, e⟩)), [rdP z f (J9 ⟨b, e⟩)], []⟩ else none
  | _, _, _ => none
noncomputable def JkK : Sig := { own := [], run := JdC }
theorem JkL : Ji tau Try.prog 135 JkK := Jup.of fun xs es k res hr => by
  change JdC xs es k = some res at hr
  unfold JdC at hr
  split at hr
  · rename_i z f b e
    obtain ⟨hc, hr⟩ := JL hr
    simp only [Bool.and_eq_true] at hc
    show JmY 0 z f b e k = some res
    have hn := (W3 (s := ⟨b, e⟩) hc.2 (n := 2) (by omega)).1
    have ho := (Qx.1 (X2 (s := J1 2 ⟨b, e⟩) (XI (s := ⟨b, e⟩) hc.2 2) (QI 2 ⟨b, e⟩).toNat)).1
    unfold JmY
    simp only [WF, Wb, X1]
    rw [Jc (by rw [hc.1, hc.2]; rfl), Jc (by rw [hc.1]; simpa using hn), Jc (by rw [ho]; rfl)]
    rw [Jau, VI] at hr
    exact hr
  · cases hr



noncomputable def Juq : Fns := F0
theorem JmZ : Jz tau Try.prog Juq := JG
def Jid : An := (.seq .leaf (.seq (.seq .leaf (.cond .leaf .leaf)) (.seq (.seq .leaf (.cond (.seq .leaf .leaf) .leaf)) (.seq .leaf (.seq .leaf .leaf)))))
noncomputable def Jm0 (f : Nat) (r_B_z : Bool) (r_B_f : Bool) (r_B : List PV) (r_P : Int) (r_Err : Int) (n : Int) (k : Res → Option Res) : Option Res := bif r_Err == 0 then bif decide (IntKind.i64.wrap (zi r_B.length - r_P) < n) then k (Res.mk (.ro 5 true true []) [.box false 138 (PV.st 138 [.ro 5 r_B_z r_B_f r_B, .sc (.int .i64 r_P), .sc (.int .i64 8)])] []) else bif r_Err != 0 then k (Res.mk (.ro 5 true true []) [.box false 138 (PV.st 138 [.ro 5 r_B_z r_B_f r_B, .sc (.int .i64 r_P), .sc (.int .i64 r_Err)])] []) else bif decide (0 ≤ IntKind.i64.wrap (IntKind.i64.wrap (r_P + n) - n)) && decide (0 ≤ IntKind.i64.wrap (r_P + n)) && decide ((IntKind.i64.wrap (IntKind.i64.wrap (r_P + n) - n)).toNat ≤ (IntKind.i64.wrap (r_P + n)).toNat) && decide ((IntKind.i64.wrap (r_P + n)).toNat ≤ r_B.length) && true then k (Res.mk (.ro 5 r_B_z (r_B_z || r_B_f && false) (List.drop (IntKind.i64.wrap (IntKind.i64.wrap (r_P + n) - n)).toNat (List.take (IntKind.i64.wrap (r_P + n)).toNat r_B))) [.box false 138 (PV.st 138 [.ro 5 r_B_z r_B_f r_B, .sc (.int .i64 (IntKind.i64.wrap (r_P + n))), .sc (.int .i64 r_Err)])] []) else none else bif r_Err != 0 then k (Res.mk (.ro 5 true true []) [.box false 138 (PV.st 138 [.ro 5 r_B_z r_B_f r_B, .sc (.int .i64 r_P), .sc (.int .i64 r_Err)])] []) else bif decide (0 ≤ IntKind.i64.wrap (IntKind.i64.wrap (r_P + n) - n)) && decide (0 ≤ IntKind.i64.wrap (r_P + n)) && decide ((IntKind.i64.wrap (IntKind.i64.wrap (r_P + n) - n)).toNat ≤ (IntKind.i64.wrap (r_P + n)).toNat) && decide ((IntKind.i64.wrap (r_P + n)).toNat ≤ r_B.length) && true then k (Res.mk (.ro 5 r_B_z (r_B_z || r_B_f && false) (List.drop (IntKind.i64.wrap (IntKind.i64.wrap (r_P + n) - n)).toNat (List.take (IntKind.i64.wrap (r_P + n)).toNat r_B))) [.box false 138 (PV.st 138 [.ro 5 r_B_z r_B_f r_B, .sc (.int .i64 (IntKind.i64.wrap (r_P + n))), .sc (.int .i64 r_Err)])] []) else none
theorem Jzk (f : Nat) (r_B_z : Bool) (r_B_f : Bool) (r_B : List PV) (r_P : Int) (r_Err : Int) (n : Int) (k : Res → Option Res) : JM tau Juq Try.f142 (Try.f142.body.get!) Jid [.ro] 0 [.ptr 0 [], .sc (.int .i64 n)] [.box false 138 (.st 138 [.ro 5 r_B_z r_B_f r_B, .sc (.int .i64 r_P), .sc (.int .i64 r_Err)])] k = Jm0 f r_B_z r_B_f r_B r_P r_Err n k := by kernel_rfl
theorem Jur (f : Nat) : Jg (Try.f142.body.get!) Jid = [] := by kernel_rfl
theorem Jus (f : Nat) : ∀ q ∈ Jg (Try.f142.body.get!) Jid, q.Ok tau Try.prog 1 := by
  rw [Jur f]; intro q hq; cases hq
theorem Jpx : Try.prog.funcs[142]? = some Try.f142 := by kernel_rfl
theorem Jpy : Try.f142.body = some (Try.f142.body.get!) := by kernel_rfl
theorem JkM : Enters Try.prog 142 := enters_of Jpx (by kernel_rfl) Jpy
noncomputable def JgH : List PV → List Ent → (Res → Option Res) → Option Res
  | [.ptr 0 [], .sc (.int .i64 n)], [.box false 138 (.st 138 [.ro 5 r_B_z r_B_f r_B, .sc (.int .i64 r_P), .sc (.int .i64 r_Err)])], k => Jm0 0 r_B_z r_B_f r_B r_P r_Err n k
  | _, _, _ => none
noncomputable def Jzl : Sig := { own := [], run := JgH }
theorem Jut : Ji tau Try.prog 142 Jzl := JS Jr JmZ Js Jpx Jpy Jid [.ro] 1 [] JgH (Jus 0) fun xs es k res hr => by
  unfold JgH at hr
  split at hr
  · exact ⟨rfl, 0, (Jzk 0 _ _ _ _ _ _  _).trans hr⟩
  · cases hr
-- FN (*ref1.Reader).take
abbrev rfP (z f : Bool) (t : RT) : Ent := .box false 138 (.st 138 [.ro 5 z f t.B, .sc (.int .i64 t.P), .sc (.int .i64 t.e)])
noncomputable def JdD : List PV → List Ent → (Res → Option Res) → Option Res
  | [.ptr 0 [], .sc (.int .i64 n)], [.box false 138 (.st 138 [.ro 5 z f B, .sc (.int .i64 P), .sc (.int .i64 e)])], k =>
    bif okT ⟨B, P, e⟩ && (decide (0 ≤ n) && decide (n ≤ 1000000000)) then k ⟨.ro 5 (!okS n.toNat (RT.view ⟨B, P, e⟩) || z) (!okS n.toNat (RT.view ⟨B, P, e⟩) || z) (Qw n.toNat (RT.view ⟨B, P, e⟩)), [rfP z f (Ja n.toNat ⟨B, P, e⟩)], []⟩ else none
  | _, _, _ => none
noncomputable def Jie : Sig := { own := [], run := JdD }
theorem Jm1 (z f : Bool) (B : List PV) (P e n : Int) (hk : okT ⟨B, P, e⟩ = true) (hn : 0 ≤ n) (hn2 : n ≤ 1000000000) (k : Res → Option Res) :
    Jm0 0 z f B P e n k = k ⟨.ro 5 (!okS n.toNat (RT.view ⟨B, P, e⟩) || z) (!okS n.toNat (RT.view ⟨B, P, e⟩) || z) (Qw n.toNat (RT.view ⟨B, P, e⟩)), [rfP z f (Ja n.toNat ⟨B, P, e⟩)], []⟩ := by
  rw [JgB, X1, Wv]
  simp only [okT, Bool.and_eq_true, decide_eq_true_eq, Nat.ble_eq] at hk
  obtain ⟨k1, k2, k3, k4⟩ := hk
  have hz2 : (z || f && false) = z := by cases z <;> cases f <;> rfl
  obtain ⟨p, rfl⟩ := Int.eq_ofNat_of_zero_le k1
  obtain ⟨m, rfl⟩ := Int.eq_ofNat_of_zero_le hn
  have w1 : IntKind.i64.wrap (zi B.length - (p : Int)) = ((B.length - p : Nat) : Int) := by simp only [zi]; rw [wrap_i64 (by omega) (by omega)]; omega
  have w2 : IntKind.i64.wrap ((p : Int) + (m : Int)) = ((p + m : Nat) : Int) := by rw [wrap_i64 (by omega) (by omega)]; omega
  have w3 : IntKind.i64.wrap (((p + m : Nat) : Int) - (m : Int)) = (p : Int) := by rw [wrap_i64 (by omega) (by omega)]; omega
  have hdl : (B.drop p).length = B.length - p := List.length_drop
  unfold Jm0
  simp only [w1, w2, w3, Int.toNat_natCast, hz2]
  by_cases c2 : e = 0
  · subst c2
    simp only [beq_self_eq_true, cond_true]
    have h00 : ((0 : Int) != 0) = false := by decide
    by_cases c1 : ((B.length - p : Nat) : Int) < (m : Int)
    · rw [Jc (by simpa using c1)]
      have hb : Nat.ble m (B.length - p) = false := by
        cases h : Nat.ble m (B.length - p) with
        | false => rfl
        | true => rw [Nat.ble_eq] at h; omega
      simp [Wu, J0, QE, RT.view, hb]
    · have hb : Nat.ble m (B.length - p) = true := by rw [Nat.ble_eq]; omega
      simp only [h00, cond_false]
      rw [JK (by simpa using c1), Jc (by simp; omega)]
      have hd : List.drop p (List.take (p + m) B) = List.take m (List.drop p B) := by rw [List.drop_take]; congr 1; omega
      rw [hd]
      simp [Wu, J0, QE, RT.view, hb]
  · have hb : (e == 0) = false := by simpa using c2
    have hb2 : (e != 0) = true := by simpa using c2
    simp only [hb, hb2, cond_true, cond_false]
    simp [Wu, J0, QE, RT.view, hb]
theorem JgI : Ji tau Try.prog 142 Jie := Jut.of fun xs es k res hr => by
  change JdD xs es k = some res at hr
  unfold JdD at hr
  split at hr
  · obtain ⟨hc, hr⟩ := JL hr
    simp only [Bool.and_eq_true, decide_eq_true_eq] at hc
    exact (Jm1 _ _ _ _ _ _ hc.1 hc.2.1 hc.2.2 _).trans hr
  · cases hr
def N84 : Nat := 25
noncomputable def F84 : Fns := JD 142 Jie (F0)
theorem JkN : Jz tau Try.prog F84 := (JG).add JgI JkM
noncomputable def Jcz : Code := QB (Try.f84.body.get!) [1, 1, 1, 0, 1, 0, 0]
def X4 : Nm := [(3, .any), (4, .any), (5, .any)]
def YV : Nm := [(3, .any)]
def Je4 : An := (.seq (.seq .leaf (.cond .leaf .leaf)) (.seq (.block none .leaf) .leaf))
def Jm2 (r0 : QZ) : An := (.seq .leaf (.seq .leaf (.seq .leaf (.seq (.seq .leaf (.block none (.sum X4 N84 r0))) (.seq .leaf .leaf)))))
noncomputable def VL (f : Nat) (rc : Int → Bool → Bool → List PV → Int → Bool → Bool → List PV → Int → Int → Option Res) (k0 : Int → Bool → Bool → List PV → Int → Int → Option Res) (v0 : Int) (v1 : Bool) (v2 : Bool) (v3 : List PV) (v4 : Int) (v5 : Bool) (v6 : Bool) (v7 : List PV) (v8 : Int) (v9 : Int) : Option Res := bif decide (v4 ≥ 0) then bif decide (0 ≤ v4) && decide (v4 < zi v3.length) && PV.isInt IntKind.u8 (v3.getD v4.toNat PV.top) && true then rc (JC BinOp.or IntKind.u64 (WA IntKind.u64 v0 8) (IntKind.u64.wrap (v3.getD v4.toNat PV.top).int)) v1 v2 v3 (IntKind.i64.wrap (v4 - 1)) v5 v6 v7 v8 v9 else none else k0 v0 v5 v6 v7 v8 v9
noncomputable def Z6 (f : Nat) (k0 : Int → Bool → Bool → List PV → Int → Int → Option Res) : Nat → Int → Bool → Bool → List PV → Int → Bool → Bool → List PV → Int → Int → Option Res
  | 0, _, _, _, _, _, _, _, _, _, _ => none
  | n + 1, v0, v1, v2, v3, v4, v5, v6, v7, v8, v9 => VL f (Z6 f k0 n) k0 v0 v1 v2 v3 v4 v5 v6 v7 v8 v9
theorem Jm3 (f : Nat) (k : Kont) (n : Nat) (v0 : Int) (v1 : Bool) (v2 : Bool) (v3 : List PV) (v4 : Int) (v5 : Bool) (v6 : Bool) (v7 : List PV) (v8 : Int) (v9 : Int) : Jo tau 1 X4 (fun s k => ev tau F84 1 0 Jcz (Je4 ) s k) (n + 1) (Je X4 N84 [.sc (.int .u64 v0), .ro 5 v1 v2 v3, .sc (.int .i64 v4)] [(0, .box false 138 (PV.st 138 [.ro 5 v5 v6 v7, .sc (.int .i64 v8), .sc (.int .i64 v9)]))]) (Jv tau 1 YV k) = VL f (fun v0 v1 v2 v3 v4 v5 v6 v7 v8 v9 => Jo tau 1 X4 (fun s k => ev tau F84 1 0 Jcz (Je4 ) s k) n (Je X4 N84 [.sc (.int .u64 v0), .ro 5 v1 v2 v3, .sc (.int .i64 v4)] [(0, .box false 138 (PV.st 138 [.ro 5 v5 v6 v7, .sc (.int .i64 v8), .sc (.int .i64 v9)]))]) (Jv tau 1 YV k)) (fun x0 x1 x2 x3 x4 x5 => k (Ex.exit 0) (Je YV N84 [.sc (.int .u64 x0)] [(0, .box false 138 (PV.st 138 [.ro 5 x1 x2 x3, .sc (.int .i64 x4), .sc (.int .i64 x5)]))])) v0 v1 v2 v3 v4 v5 v6 v7 v8 v9 := by kernel_rfl
theorem Jif (f : Nat) (k : Kont) : ∀ (n : Nat) (v0 : Int) (v1 : Bool) (v2 : Bool) (v3 : List PV) (v4 : Int) (v5 : Bool) (v6 : Bool) (v7 : List PV) (v8 : Int) (v9 : Int), Jo tau 1 X4 (fun s k => ev tau F84 1 0 Jcz (Je4 ) s k) n (Je X4 N84 [.sc (.int .u64 v0), .ro 5 v1 v2 v3, .sc (.int .i64 v4)] [(0, .box false 138 (PV.st 138 [.ro 5 v5 v6 v7, .sc (.int .i64 v8), .sc (.int .i64 v9)]))]) (Jv tau 1 YV k) = Z6 f (fun x0 x1 x2 x3 x4 x5 => k (Ex.exit 0) (Je YV N84 [.sc (.int .u64 x0)] [(0, .box false 138 (PV.st 138 [.ro 5 x1 x2 x3, .sc (.int .i64 x4), .sc (.int .i64 x5)]))])) n v0 v1 v2 v3 v4 v5 v6 v7 v8 v9 | 0, _, _, _, _, _, _, _, _, _, _ => rfl | n + 1, v0, v1, v2, v3, v4, v5, v6, v7, v8, v9 => (Jm3 f k n v0 v1 v2 v3 v4 v5 v6 v7 v8 v9).trans (congrArg (fun r => VL f r (fun x0 x1 x2 x3 x4 x5 => k (Ex.exit 0) (Je YV N84 [.sc (.int .u64 x0)] [(0, .box false 138 (PV.st 138 [.ro 5 x1 x2 x3, .sc (.int .i64 x4), .sc (.int .i64 x5)]))])) v0 v1 v2 v3 v4 v5 v6 v7 v8 v9) (by funext v0 v1 v2 v3 v4 v5 v6 v7 v8 v9; exact Jif f k n v0 v1 v2 v3 v4 v5 v6 v7 v8 v9))
noncomputable def Jbc (f : Nat) : List PV → List (Nat × Ent) → Kont → Option Res
  | [.sc (.int .u64 v0), .ro 5 v1 v2 v3,
  PV.sc
    (Value.int IntKind.i64
      v4)], [(0,
    Ent.box false 138
      (PV.st 138
        [.ro 5 v5 v6 v7, .sc (.int .i64 v8),
          PV.sc
            (Value.int IntKind.i64
              v9)]))], k => Z6 f (fun x0 x1 x2 x3 x4 x5 => k (Ex.exit
  0) (Je YV N84 [PV.sc
    (Value.int .u64 x0)] [(0, .box false 138 (PV.st 138 [.ro 5 x1 x2 x3, .sc (.int .i64 x4), .sc (.int .i64 x5)]))])) f v0 v1 v2 v3 v4 v5 v6 v7 v8 v9
  | _, _, _ => none
theorem Jrw (f : Nat) : Jg Jcz Je4 = [] := by kernel_rfl
theorem Juu (f : Nat) : (Item.l Jcz X4 N84 (Jbc f)).Ok tau Try.prog 1 := JI Jr JkN Js (x := Je4) (nm2 := YV) (Jp _ _ (by rw [Jrw f]; intro q hq; cases hq)) fun vs hp k res hr => by
  unfold Jbc at hr
  split at hr
  · exact ⟨f, 0, (Jif f _ f _ _ _ _ _ _ _ _ _ _ ).trans hr⟩
  · cases hr
noncomputable def g84 (f : Nat) (r_B_z : Bool) (r_B_f : Bool) (r_B : List PV) (r_P : Int) (r_Err : Int) (k : Res → Option Res) : Option Res := bif okT (RT.mk r_B r_P r_Err) && true then Z6 f (fun x0_0 x1_0 x2_0 x3_0 x4_0 x5_0 => k (Res.mk (.sc (.int .i64 (IntKind.i64.wrap x0_0))) [.box false 138 (PV.st 138 [.ro 5 x1_0 x2_0 x3_0, .sc (.int .i64 x4_0), .sc (.int .i64 x5_0)])] [])) f (0) (!okS 8 (RS.mk (List.drop (RT.mk r_B r_P r_Err).P.toNat (RT.mk r_B r_P r_Err).B) (RT.mk r_B r_P r_Err).e) || r_B_z) (!okS 8 (RS.mk (List.drop (RT.mk r_B r_P r_Err).P.toNat (RT.mk r_B r_P r_Err).B) (RT.mk r_B r_P r_Err).e) || r_B_z) (Qw 8 (RS.mk (List.drop (RT.mk r_B r_P r_Err).P.toNat (RT.mk r_B r_P r_Err).B) (RT.mk r_B r_P r_Err).e)) (IntKind.i64.wrap (zi (Qw 8 (RS.mk (List.drop (RT.mk r_B r_P r_Err).P.toNat (RT.mk r_B r_P r_Err).B) (RT.mk r_B r_P r_Err).e)).length - 1)) r_B_z r_B_f ((Ja 8 (RT.mk r_B r_P r_Err)).B) ((Ja 8 (RT.mk r_B r_P r_Err)).P) ((Ja 8 (RT.mk r_B r_P r_Err)).e) else none
theorem e84 (f : Nat) (r_B_z : Bool) (r_B_f : Bool) (r_B : List PV) (r_P : Int) (r_Err : Int) (k : Res → Option Res) : JM tau F84 Try.f84 (Try.f84.body.get!) (Jm2 (Jbc f)) [.ro] 0 [.ptr 0 []] [.box false 138 (.st 138 [.ro 5 r_B_z r_B_f r_B, .sc (.int .i64 r_P), .sc (.int .i64 r_Err)])] k = g84 f r_B_z r_B_f r_B r_P r_Err k := by kernel_rfl
theorem Jzm (f : Nat) : Jg (Try.f84.body.get!) (Jm2 (Jbc f)) = [.l Jcz X4 N84 (Jbc f)] := by kernel_rfl
theorem Jzn (f : Nat) : ∀ q ∈ Jg (Try.f84.body.get!) (Jm2 (Jbc f)), q.Ok tau Try.prog 1 := by
  rw [Jzm f]; simp only [List.forall_mem_cons, List.not_mem_nil, false_implies, implies_true, and_true]; exact Juu f
theorem Juv : Try.prog.funcs[84]? = some Try.f84 := by kernel_rfl
theorem Juw : Try.f84.body = some (Try.f84.body.get!) := by kernel_rfl
theorem Jrx : Enters Try.prog 84 := enters_of Juv (by kernel_rfl) Juw
noncomputable def F83 : Fns := JD 142 Jie (F0)
theorem Jry : Jz tau Try.prog F83 := (JG).add JgI JkM
def Jm4 : An := (.seq .leaf (.seq .leaf (.seq (.seq .leaf (.cond (.seq .leaf .leaf) .leaf)) (.seq .leaf .leaf))))
noncomputable def g83 (f : Nat) (r_B_z : Bool) (r_B_f : Bool) (r_B : List PV) (r_P : Int) (r_Err : Int) (k : Res → Option Res) : Option Res := bif okT (RT.mk r_B r_P r_Err) && true then bif zi (Qw 1 (RS.mk (List.drop (RT.mk r_B r_P r_Err).P.toNat (RT.mk r_B r_P r_Err).B) (RT.mk r_B r_P r_Err).e)).length == 0 then k (Res.mk (.sc (.int .i64 0)) [.box false 138 (PV.st 138 [.ro 5 r_B_z r_B_f (Ja 1 (RT.mk r_B r_P r_Err)).B, .sc (.int .i64 (Ja 1 (RT.mk r_B r_P r_Err)).P), .sc (.int .i64 (Ja 1 (RT.mk r_B r_P r_Err)).e)])] []) else bif decide (0 < zi (Qw 1 (RS.mk (List.drop (RT.mk r_B r_P r_Err).P.toNat (RT.mk r_B r_P r_Err).B) (RT.mk r_B r_P r_Err).e)).length) && PV.isInt IntKind.u8 ((Qw 1 (RS.mk (List.drop (RT.mk r_B r_P r_Err).P.toNat (RT.mk r_B r_P r_Err).B) (RT.mk r_B r_P r_Err).e)).getD 0 PV.top) && true then k (Res.mk (.sc (.int .i64 (IntKind.i64.wrap ((Qw 1 (RS.mk (List.drop (RT.mk r_B r_P r_Err).P.toNat (RT.mk r_B r_P r_Err).B) (RT.mk r_B r_P r_Err).e)).getD 0 PV.top).int))) [.box false 138 (PV.st 138 [.ro 5 r_B_z r_B_f (Ja 1 (RT.mk r_B r_P r_Err)).B, .sc (.int .i64 (Ja 1 (RT.mk r_B r_P r_Err)).P), .sc (.int .i64 (Ja 1 (RT.mk r_B r_P r_Err)).e)])] []) else none else none
theorem e83 (f : Nat) (r_B_z : Bool) (r_B_f : Bool) (r_B : List PV) (r_P : Int) (r_Err : Int) (k : Res → Option Res) : JM tau F83 Try.f83 (Try.f83.body.get!) Jm4 [.ro] 0 [.ptr 0 []] [.box false 138 (.st 138 [.ro 5 r_B_z r_B_f r_B, .sc (.int .i64 r_P), .sc (.int .i64 r_Err)])] k = g83 f r_B_z r_B_f r_B r_P r_Err k := by kernel_rfl
theorem Jzo (f : Nat) : Jg (Try.f83.body.get!) Jm4 = [] := by kernel_rfl
theorem Jzp (f : Nat) : ∀ q ∈ Jg (Try.f83.body.get!) Jm4, q.Ok tau Try.prog 1 := by
  rw [Jzo f]; intro q hq; cases hq
theorem Jux : Try.prog.funcs[83]? = some Try.f83 := by kernel_rfl
theorem Juy : Try.f83.body = some (Try.f83.body.get!) := by kernel_rfl
theorem Jrz : Enters Try.prog 83 := enters_of Jux (by kernel_rfl) Juy
noncomputable def JkO : List PV → List Ent → (Res → Option Res) → Option Res
  | [.ptr 0 []], [.box false 138 (.st 138 [.ro 5 r_B_z r_B_f r_B, .sc (.int .i64 r_P), .sc (.int .i64 r_Err)])], k => g83 0 r_B_z r_B_f r_B r_P r_Err k
  | _, _, _ => none
noncomputable def s83 : Sig := { own := [], run := JkO }
theorem Jzq : Ji tau Try.prog 83 s83 := JS Jr Jry Js Jux Juy Jm4 [.ro] 1 [] JkO (Jzp 0) fun xs es k res hr => by
  unfold JkO at hr
  split at hr
  · exact ⟨rfl, 0, (e83 0 _ _ _ _ _  _).trans hr⟩
  · cases hr
noncomputable def F86 : Fns := JD 142 Jie (F0)
theorem JrA : Jz tau Try.prog F86 := (JG).add JgI JkM
def Jm5 : An := (.seq .leaf (.seq .leaf (.seq (.seq .leaf (.cond (.seq .leaf .leaf) .leaf)) (.seq .leaf .leaf))))
noncomputable def g86 (f : Nat) (r_B_z : Bool) (r_B_f : Bool) (r_B : List PV) (r_P : Int) (r_Err : Int) (k : Res → Option Res) : Option Res := bif okT (RT.mk r_B r_P r_Err) && true then bif zi (Qw 2 (RS.mk (List.drop (RT.mk r_B r_P r_Err).P.toNat (RT.mk r_B r_P r_Err).B) (RT.mk r_B r_P r_Err).e)).length == 0 then k (Res.mk (.sc (.string (ByteArray.mk (Array.mk [])))) [.box false 138 (PV.st 138 [.ro 5 r_B_z r_B_f (Ja 2 (RT.mk r_B r_P r_Err)).B, .sc (.int .i64 (Ja 2 (RT.mk r_B r_P r_Err)).P), .sc (.int .i64 (Ja 2 (RT.mk r_B r_P r_Err)).e)])] []) else bif decide (0 < zi (Qw 2 (RS.mk (List.drop (RT.mk r_B r_P r_Err).P.toNat (RT.mk r_B r_P r_Err).B) (RT.mk r_B r_P r_Err).e)).length) && PV.isInt IntKind.u8 ((Qw 2 (RS.mk (List.drop (RT.mk r_B r_P r_Err).P.toNat (RT.mk r_B r_P r_Err).B) (RT.mk r_B r_P r_Err).e)).getD 0 PV.top) && true then bif decide (1 < zi (Qw 2 (RS.mk (List.drop (RT.mk r_B r_P r_Err).P.toNat (RT.mk r_B r_P r_Err).B) (RT.mk r_B r_P r_Err).e)).length) && PV.isInt IntKind.u8 ((Qw 2 (RS.mk (List.drop (RT.mk r_B r_P r_Err).P.toNat (RT.mk r_B r_P r_Err).B) (RT.mk r_B r_P r_Err).e)).getD 1 PV.top) && true then bif okT (Ja 2 (RT.mk r_B r_P r_Err)) && (decide (0 ≤ IntKind.i64.wrap (IntKind.i64.wrap ((Qw 2 (RS.mk (List.drop (RT.mk r_B r_P r_Err).P.toNat (RT.mk r_B r_P r_Err).B) (RT.mk r_B r_P r_Err).e)).getD 0 PV.top).int + IntKind.i64.wrap (256 * IntKind.i64.wrap ((Qw 2 (RS.mk (List.drop (RT.mk r_B r_P r_Err).P.toNat (RT.mk r_B r_P r_Err).B) (RT.mk r_B r_P r_Err).e)).getD 1 PV.top).int))) && decide (IntKind.i64.wrap (IntKind.i64.wrap ((Qw 2 (RS.mk (List.drop (RT.mk r_B r_P r_Err).P.toNat (RT.mk r_B r_P r_Err).B) (RT.mk r_B r_P r_Err).e)).getD 0 PV.top).int + IntKind.i64.wrap (256 * IntKind.i64.wrap ((Qw 2 (RS.mk (List.drop (RT.mk r_B r_P r_Err).P.toNat (RT.mk r_B r_P r_Err).B) (RT.mk r_B r_P r_Err).e)).getD 1 PV.top).int)) ≤ 1000000000)) then bif Jh IntKind.u8 (Qw (IntKind.i64.wrap (IntKind.i64.wrap ((Qw 2 (RS.mk (List.drop (RT.mk r_B r_P r_Err).P.toNat (RT.mk r_B r_P r_Err).B) (RT.mk r_B r_P r_Err).e)).getD 0 PV.top).int + IntKind.i64.wrap (256 * IntKind.i64.wrap ((Qw 2 (RS.mk (List.drop (RT.mk r_B r_P r_Err).P.toNat (RT.mk r_B r_P r_Err).B) (RT.mk r_B r_P r_Err).e)).getD 1 PV.top).int))).toNat (RS.mk (List.drop (RT.mk (Ja 2 (RT.mk r_B r_P r_Err)).B (Ja 2 (RT.mk r_B r_P r_Err)).P (Ja 2 (RT.mk r_B r_P r_Err)).e).P.toNat (RT.mk (Ja 2 (RT.mk r_B r_P r_Err)).B (Ja 2 (RT.mk r_B r_P r_Err)).P (Ja 2 (RT.mk r_B r_P r_Err)).e).B) (RT.mk (Ja 2 (RT.mk r_B r_P r_Err)).B (Ja 2 (RT.mk r_B r_P r_Err)).P (Ja 2 (RT.mk r_B r_P r_Err)).e).e)) && true then k (Res.mk (.sc (.string (ByteArray.mk (Array.mk (Jq (!okS (IntKind.i64.wrap (IntKind.i64.wrap ((Qw 2 (RS.mk (List.drop (RT.mk r_B r_P r_Err).P.toNat (RT.mk r_B r_P r_Err).B) (RT.mk r_B r_P r_Err).e)).getD 0 PV.top).int + IntKind.i64.wrap (256 * IntKind.i64.wrap ((Qw 2 (RS.mk (List.drop (RT.mk r_B r_P r_Err).P.toNat (RT.mk r_B r_P r_Err).B) (RT.mk r_B r_P r_Err).e)).getD 1 PV.top).int))).toNat (RT.mk (Ja 2 (RT.mk r_B r_P r_Err)).B (Ja 2 (RT.mk r_B r_P r_Err)).P (Ja 2 (RT.mk r_B r_P r_Err)).e).view || r_B_z, Qw (IntKind.i64.wrap (IntKind.i64.wrap ((Qw 2 (RS.mk (List.drop (RT.mk r_B r_P r_Err).P.toNat (RT.mk r_B r_P r_Err).B) (RT.mk r_B r_P r_Err).e)).getD 0 PV.top).int + IntKind.i64.wrap (256 * IntKind.i64.wrap ((Qw 2 (RS.mk (List.drop (RT.mk r_B r_P r_Err).P.toNat (RT.mk r_B r_P r_Err).B) (RT.mk r_B r_P r_Err).e)).getD 1 PV.top).int))).toNat (RS.mk (List.drop (RT.mk (Ja 2 (RT.mk r_B r_P r_Err)).B (Ja 2 (RT.mk r_B r_P r_Err)).P (Ja 2 (RT.mk r_B r_P r_Err)).e).P.toNat (RT.mk (Ja 2 (RT.mk r_B r_P r_Err)).B (Ja 2 (RT.mk r_B r_P r_Err)).P (Ja 2 (RT.mk r_B r_P r_Err)).e).B) (RT.mk (Ja 2 (RT.mk r_B r_P r_Err)).B (Ja 2 (RT.mk r_B r_P r_Err)).P (Ja 2 (RT.mk r_B r_P r_Err)).e).e)).snd))))) [.box false 138 (PV.st 138 [.ro 5 r_B_z r_B_f (Ja (IntKind.i64.wrap (IntKind.i64.wrap ((Qw 2 (RS.mk (List.drop (RT.mk r_B r_P r_Err).P.toNat (RT.mk r_B r_P r_Err).B) (RT.mk r_B r_P r_Err).e)).getD 0 PV.top).int + IntKind.i64.wrap (256 * IntKind.i64.wrap ((Qw 2 (RS.mk (List.drop (RT.mk r_B r_P r_Err).P.toNat (RT.mk r_B r_P r_Err).B) (RT.mk r_B r_P r_Err).e)).getD 1 PV.top).int))).toNat (Ja 2 (RT.mk r_B r_P r_Err))).B, .sc (.int .i64 (Ja (IntKind.i64.wrap (IntKind.i64.wrap ((Qw 2 (RS.mk (List.drop (RT.mk r_B r_P r_Err).P.toNat (RT.mk r_B r_P r_Err).B) (RT.mk r_B r_P r_Err).e)).getD 0 PV.top).int + IntKind.i64.wrap (256 * IntKind.i64.wrap ((Qw 2 (RS.mk (List.drop (RT.mk r_B r_P r_Err).P.toNat (RT.mk r_B r_P r_Err).B) (RT.mk r_B r_P r_Err).e)).getD 1 PV.top).int))).toNat (Ja 2 (RT.mk r_B r_P r_Err))).P), .sc (.int .i64 (Ja (IntKind.i64.wrap (IntKind.i64.wrap ((Qw 2 (RS.mk (List.drop (RT.mk r_B r_P r_Err).P.toNat (RT.mk r_B r_P r_Err).B) (RT.mk r_B r_P r_Err).e)).getD 0 PV.top).int + IntKind.i64.wrap (256 * IntKind.i64.wrap ((Qw 2 (RS.mk (List.drop (RT.mk r_B r_P r_Err).P.toNat (RT.mk r_B r_P r_Err).B) (RT.mk r_B r_P r_Err).e)).getD 1 PV.top).int))).toNat (Ja 2 (RT.mk r_B r_P r_Err))).e)])] []) else none else none else none else none else none
theorem e86 (f : Nat) (r_B_z : Bool) (r_B_f : Bool) (r_B : List PV) (r_P : Int) (r_Err : Int) (k : Res → Option Res) : JM tau F86 Try.f86 (Try.f86.body.get!) Jm5 [.ro] 0 [.ptr 0 []] [.box false 138 (.st 138 [.ro 5 r_B_z r_B_f r_B, .sc (.int .i64 r_P), .sc (.int .i64 r_Err)])] k = g86 f r_B_z r_B_f r_B r_P r_Err k := by kernel_rfl
theorem Jzr (f : Nat) : Jg (Try.f86.body.get!) Jm5 = [] := by kernel_rfl
theorem Jzs (f : Nat) : ∀ q ∈ Jg (Try.f86.body.get!) Jm5, q.Ok tau Try.prog 1 := by
  rw [Jzr f]; intro q hq; cases hq
theorem Juz : Try.prog.funcs[86]? = some Try.f86 := by kernel_rfl
theorem JuA : Try.f86.body = some (Try.f86.body.get!) := by kernel_rfl
theorem JuB : Enters Try.prog 86 := enters_of Juz (by kernel_rfl) JuA
noncomputable def JkP : List PV → List Ent → (Res → Option Res) → Option Res
  | [.ptr 0 []], [.box false 138 (.st 138 [.ro 5 r_B_z r_B_f r_B, .sc (.int .i64 r_P), .sc (.int .i64 r_Err)])], k => g86 0 r_B_z r_B_f r_B r_P r_Err k
  | _, _, _ => none
noncomputable def s86 : Sig := { own := [], run := JkP }
theorem Jzt : Ji tau Try.prog 86 s86 := JS Jr JrA Js Juz JuA Jm5 [.ro] 1 [] JkP (Jzs 0) fun xs es k res hr => by
  unfold JkP at hr
  split at hr
  · exact ⟨rfl, 0, (e86 0 _ _ _ _ _  _).trans hr⟩
  · cases hr
-- FN (*ref1.Reader).Int | (*ref1.Reader).Byte | (*ref1.Reader).Text
theorem Jb0 (k : IntKind) (x y : Int) : JC .or k x y = JC .or k y x := by simp only [JC]; rw [BitVec.or_comm]
theorem Jpz (L : List Int) (hL : ∀ x ∈ L, 0 ≤ x ∧ x < 256) (h8 : L.length ≤ 8) (f : Nat) (k0 : Int → Bool → Bool → List PV → Int → Int → Option Res) (a b c d : Bool) (R : List PV) (P e : Int) : ∀ (i n : Nat), i ≤ L.length → i < n →
    Z6 f k0 n (QJ (L.drop i)) a b (pu .u8 L) ((i : Int) - 1) c d R P e = k0 (QJ L) c d R P e
  | 0, n + 1, h, hn => by
      simp only [Z6, VL, List.drop_zero]
      exact JK (by decide)
  | i + 1, n + 1, h, hn => by
      have g0 : ((i + 1 : Nat) : Int) - 1 = (i : Int) := by omega
      have g1 : ((i : Int)).toNat = i := by omega
      have h1 : IntKind.i64.wrap ((i : Int) - 1) = (i : Int) - 1 := wrap_i64 (by omega) (by omega)
      have hi : i < L.length := by omega
      have hx := hL (L.getD i 0) (by rw [List.getD_eq_getElem?_getD, List.getElem?_eq_getElem hi]; exact List.getElem_mem hi)
      rw [g0]
      simp only [Z6, VL, g1, h1]
      rw [JV hi, Qn hi]
      refine (Jc (by simp)).trans ((Jc (by simp [zi]; omega)).trans ?_)
      have hd : L.drop i = L.getD i 0 :: L.drop (i + 1) := by
        rw [List.drop_eq_getElem_cons hi, List.getD_eq_getElem?_getD, List.getElem?_eq_getElem hi]; rfl
      have hb := Xd (L.drop (i + 1)) fun x hx => hL x (List.mem_of_mem_drop hx)
      have hp : (256 : Int) ^ (L.drop (i + 1)).length ≤ 2 ^ 56 := by
        rw [JgC]
        have h : (2 ^ (8 * (L.drop (i + 1)).length) : Nat) ≤ 2 ^ 56 := Nat.pow_le_pow_right (by omega) (by rw [List.length_drop]; omega)
        have e2 : ((2 : Int)) ^ (8 * (L.drop (i + 1)).length) = ((2 ^ (8 * (L.drop (i + 1)).length) : Nat) : Int) := by rw [Int.natCast_pow]; rfl
        have e3 : ((2 : Int)) ^ 56 = ((2 ^ 56 : Nat) : Int) := by rw [Int.natCast_pow]; rfl
        rw [e2, e3]; exact Int.ofNat_le.2 h
      have h56 : (2 : Int) ^ 56 = 72057594037927936 := by decide
      rw [h56] at hp
      have hsh : WA .u64 (QJ (L.drop (i + 1))) 8 = QJ (L.drop (i + 1)) * 2 ^ 8 := by
        rw [WA, Qv]
        have : min (8 : Int).toNat IntKind.u64.bits = 8 := by decide
        rw [this]
        have h8 : (2 : Int) ^ 8 = 256 := by decide
        rw [h8]; omega
      have hw : IntKind.u64.wrap (L.getD i 0) = L.getD i 0 := by rw [Qv]; omega
      have h8 : (2 : Int) ^ 8 = 256 := by decide
      have h64 : (2 : Int) ^ 64 = 18446744073709551616 := by decide
      rw [hsh, hw, Jb0, Je3 (by omega) hx.1 (by rw [h8]; exact hx.2) hb.1 (by rw [h8, h64]; omega)]
      have hn1 : L.getD i 0 + QJ (L.drop (i + 1)) * 2 ^ 8 = QJ (L.drop i) := by rw [hd, QJ, h8]; omega
      rw [hn1]
      exact Jpz L hL (by assumption) f k0 a b c d R P e i n (by omega) (by omega)
noncomputable def JgJ : List PV → List Ent → (Res → Option Res) → Option Res
  | [.ptr 0 []], [.box false 138 (.st 138 [.ro 5 z f B, .sc (.int .i64 P), .sc (.int .i64 e)])], k =>
    bif okT ⟨B, P, e⟩ then k ⟨.sc (.int .i64 (Jw 8 ⟨B, P, e⟩)), [rfP z f (Ja 8 ⟨B, P, e⟩)], []⟩ else none
  | _, _, _ => none
noncomputable def Jm6 : Sig := { own := [], run := JgJ }
theorem VM {t : RT} (h : okT t = true) : byB t.view.b = true := by
  simp only [okT, Bool.and_eq_true] at h
  exact JeZ h.2.2.1 _
theorem Jm7 (B : List PV) (P e : Int) : RS.mk (List.drop (RT.mk B P e).P.toNat (RT.mk B P e).B) (RT.mk B P e).e = RT.view ⟨B, P, e⟩ := rfl
theorem JkQ : Ji tau Try.prog 84 Jm6 := Ji.mk' fun xs es k res hl hr => by
  change JgJ xs es k = some res at hr
  unfold JgJ at hr
  split at hr
  · rename_i z f B P e
    obtain ⟨hc, hr⟩ := JL hr
    have hg : g84 20 z f B P e k = some res := by
      unfold g84
      have hb := VM hc
      have ho := Qx.1 (X2 (s := RT.view ⟨B, P, e⟩) hb 8)
      have hl8 : (Jd (J0 8 (RT.view ⟨B, P, e⟩))).length ≤ 8 := by rw [Qu]; exact Wn _ _
      have hw : IntKind.i64.wrap (zi (J0 8 (RT.view ⟨B, P, e⟩)).length - 1) = ((J0 8 (RT.view ⟨B, P, e⟩)).length : Int) - 1 := by
        have := Wn 8 (RT.view ⟨B, P, e⟩)
        simp only [zi]; rw [wrap_i64 (by omega) (by omega)]
      rw [Jc (by rw [hc]; rfl), Jm7, X1, hw]
      have hL := Jpz (Jd (J0 8 (RT.view ⟨B, P, e⟩))) ho.2 hl8 20 (fun x0_0 x1_0 x2_0 x3_0 x4_0 x5_0 => k (Res.mk (.sc (.int .i64 (IntKind.i64.wrap x0_0))) [.box false 138 (.st 138 [.ro 5 x1_0 x2_0 x3_0, .sc (.int .i64 x4_0), .sc (.int .i64 x5_0)])] [])) (!okS 8 (RT.view ⟨B, P, e⟩) || z) (!okS 8 (RT.view ⟨B, P, e⟩) || z) z f (Ja 8 ⟨B, P, e⟩).B (Ja 8 ⟨B, P, e⟩).P (Ja 8 ⟨B, P, e⟩).e (Jd (J0 8 (RT.view ⟨B, P, e⟩))).length 20 (by omega) (by omega)
      rw [← Qb ho.1, List.drop_length, Qu] at hL
      simp only [QJ] at hL
      refine hL.trans ?_
      rw [Jav] at hr
      exact hr
    exact QQ Jr JkN Js Juv Juw (Jm2 (Jbc 20)) [.ro] 1 0 (Jzn 20) hl rfl ((e84 20 z f B P e k).trans hg)
  · cases hr
noncomputable def JgK : List PV → List Ent → (Res → Option Res) → Option Res
  | [.ptr 0 []], [.box false 138 (.st 138 [.ro 5 z f B, .sc (.int .i64 P), .sc (.int .i64 e)])], k =>
    bif okT ⟨B, P, e⟩ then k ⟨.sc (.int .i64 (Jw 1 ⟨B, P, e⟩)), [rfP z f (Ja 1 ⟨B, P, e⟩)], []⟩ else none
  | _, _, _ => none
noncomputable def Jm8 : Sig := { own := [], run := JgK }
theorem JkR : Ji tau Try.prog 83 Jm8 := Jzq.of fun xs es k res hr => by
  change JgK xs es k = some res at hr
  unfold JgK at hr
  split at hr
  · rename_i z f B P e
    obtain ⟨hc, hr⟩ := JL hr
    show g83 0 z f B P e k = some res
    unfold g83
    have hb := VM hc
    have hv : RT.view ⟨B, P, e⟩ = ⟨List.drop P.toNat B, e⟩ := rfl
    rw [hv] at hb
    have ho := Qx.1 (X2 hb 1)
    have hl := Wn 1 ⟨List.drop P.toNat B, e⟩
    rw [Jav, QI, hv] at hr
    simp only [X1]
    rw [Jc (by rw [hc]; rfl)]
    generalize J0 1 ⟨List.drop P.toNat B, e⟩ = O at *
    match O, hl with
    | [], _ => exact hr
    | [p], _ =>
      have h1 : p.isInt .u8 = true := by simpa [Jh] using ho.1
      have h2 := ho.2 p.int (by simp [Jd])
      refine (JK rfl).trans ((Jc (by simp [zi, h1])).trans ?_)
      have : QJ (Jd [p]) = p.int := by simp [Jd, QJ]
      rw [this] at hr
      exact hr
  · cases hr
noncomputable def JgL : List PV → List Ent → (Res → Option Res) → Option Res
  | [.ptr 0 []], [.box false 138 (.st 138 [.ro 5 z f B, .sc (.int .i64 P), .sc (.int .i64 e)])], k =>
    bif okT ⟨B, P, e⟩ then k ⟨.sc (.string (JJ ⟨B, P, e⟩)), [rfP z f (J3 ⟨B, P, e⟩)], []⟩ else none
  | _, _, _ => none
noncomputable def JrB : Sig := { own := [], run := JgL }
theorem JpA : Ji tau Try.prog 86 JrB := Jzt.of fun xs es k res hr => by
  change JgL xs es k = some res at hr
  unfold JgL at hr
  split at hr
  · rename_i z f B P e
    obtain ⟨hc, hr⟩ := JL hr
    show g86 0 z f B P e k = some res
    unfold g86
    have hb := VM hc
    have hv : RT.view ⟨B, P, e⟩ = ⟨List.drop P.toNat B, e⟩ := rfl
    rw [hv] at hb
    rw [Je0, Jdz] at hr
    have hk2 : okT (Ja 2 ⟨B, P, e⟩) = true := Qr hc 2
    have hv2 : ∀ t : RT, RS.mk (List.drop t.P.toNat t.B) t.e = t.view := fun t => rfl
    have hst : (QE 2 ⟨B, P, e⟩).view = J1 2 ⟨List.drop P.toNat B, e⟩ := XJ 2 ⟨B, P, e⟩
    rw [Jc (by rw [hc]; rfl)]
    simp only [X1, JgB]
    cases hk : Wu 2 ⟨List.drop P.toNat B, e⟩ with
    | false =>
      have hO : J0 2 ⟨List.drop P.toNat B, e⟩ = [] := by unfold J0; rw [hk]; rfl
      have hN : QI 2 ⟨List.drop P.toNat B, e⟩ = 0 := by unfold QI; rw [hO]; rfl
      have he : (J1 2 ⟨List.drop P.toNat B, e⟩).e ≠ 0 := by
        unfold J1; rw [hk]
        by_cases h0 : e = 0
        · subst h0; show (8 : Int) ≠ 0; decide
        · have : (e == 0) = false := by simpa using h0
          simp only [cond_false, this]; exact h0
      have hnk : Wu 0 (J1 2 ⟨List.drop P.toNat B, e⟩) = false := by
        unfold Wu
        have : ((J1 2 ⟨List.drop P.toNat B, e⟩).e == 0) = false := by simpa using he
        rw [this]; rfl
      have h1 : VH (RT.view ⟨B, P, e⟩) = ByteArray.mk (Array.mk []) := by
        rw [hv]; unfold VH; rw [hN]
        have : J0 (0 : Int).toNat (J1 2 ⟨List.drop P.toNat B, e⟩) = [] := by
          show J0 0 _ = []
          unfold J0; rw [hnk]; rfl
        rw [this]; rfl
      have h2 : VJ ⟨B, P, e⟩ = QE 2 ⟨B, P, e⟩ := by
        unfold VJ; rw [hv, hN]
        rw [← hst] at he
        exact JjM he _
      rw [h1, h2] at hr
      rw [hO]
      refine (Jc rfl).trans ?_
      rw [Wv]
      exact hr
    | true =>
      have hO : J0 2 ⟨List.drop P.toNat B, e⟩ = List.take 2 (List.drop P.toNat B) := by unfold J0; rw [hk]; rfl
      have hlen : 2 ≤ (List.drop P.toNat B).length := by
        simp only [Wu, Bool.and_eq_true, Nat.ble_eq] at hk; exact hk.2
      obtain ⟨p, q, hpq⟩ : ∃ p q, J0 2 ⟨List.drop P.toNat B, e⟩ = [p, q] := by
        rw [hO]
        match h : List.drop P.toNat B, hlen with
        | p :: q :: r, _ => exact ⟨p, q, rfl⟩
      have ho := Qx.1 (X2 hb 2)
      rw [hpq] at ho
      have hp1 : p.isInt .u8 = true ∧ q.isInt .u8 = true := by simpa [Jh] using ho.1
      have hp2 := ho.2 p.int (by simp [Jd])
      have hq2 := ho.2 q.int (by simp [Jd])
      have hw : IntKind.i64.wrap (IntKind.i64.wrap p.int + IntKind.i64.wrap (256 * IntKind.i64.wrap q.int)) = p.int + 256 * q.int := by
        rw [wrap_i64 (x := p.int) (by omega) (by omega), wrap_i64 (x := q.int) (by omega) (by omega), wrap_i64 (x := 256 * q.int) (by omega) (by omega), wrap_i64 (by omega) (by omega)]
      have hN : QI 2 ⟨List.drop P.toNat B, e⟩ = p.int + 256 * q.int := by
        unfold QI; rw [hpq]
        show IntKind.i64.wrap (QJ [p.int, q.int]) = _
        simp only [QJ]
        rw [wrap_i64 (by omega) (by omega)]; omega
      have g0 : ([p, q] : List PV).getD 0 PV.top = p := rfl
      have g1 : ([p, q] : List PV).getD 1 PV.top = q := rfl
      simp only [hpq, g0, g1, hw]
      refine (JK rfl).trans ((Jc (by simp [zi, hp1.1])).trans ((Jc (by simp [zi, hp1.2])).trans ((Jc ?_).trans ?_)))
      · rw [hk2]; simp; omega
      have h1 : VH (RT.view ⟨B, P, e⟩) = ⟨(Jq (J0 (p.int + 256 * q.int).toNat (Ja 2 ⟨B, P, e⟩).view)).toArray⟩ := by
        rw [hv]; unfold VH; rw [hN, Wv, hst]
      have h2 : VJ ⟨B, P, e⟩ = Ja (p.int + 256 * q.int).toNat (Ja 2 ⟨B, P, e⟩) := by
        unfold VJ; rw [hv, hN, Wv, Wv]
      have hbo : Jh .u8 (J0 (p.int + 256 * q.int).toNat (Ja 2 ⟨B, P, e⟩).view) = true := (Qx.1 (X2 (VM hk2) _)).1
      rw [h1, h2] at hr
      refine (Jc (by rw [Bool.and_true]; exact hbo)).trans ?_
      exact hr
  · cases hr
def N87 : Nat := 16
noncomputable def F87 : Fns := JD 83 Jm8 (F0)
theorem JkS : Jz tau Try.prog F87 := (JG).add JkR Jrz
noncomputable def JcA : Code := QB (Try.f87.body.get!) [1, 1, 0, 1, 0, 0]
def X5 : Nm := [(0, .any), (2, .any), (3, .any), (4, .any)]
def YW : Nm := [(2, .any), (3, .any)]
def Je5 : An := (.seq (.seq .leaf (.cond .leaf .leaf)) (.seq (.block none .leaf) .leaf))
def Jm9 (r0 : QZ) : An := (.seq .leaf (.seq .leaf (.seq (.seq .leaf (.block none (.sum X5 N87 r0))) (.seq .leaf .leaf))))
noncomputable def VN (f : Nat) (rc : Int → Bool → Bool → List PV → Int → Int → List PV → List PV → Option Res) (k0 : Bool → Bool → List PV → Int → Int → List PV → List PV → Option Res) (v0 : Int) (v1 : Bool) (v2 : Bool) (v3 : List PV) (v4 : Int) (v5 : Int) (v6 : List PV) (v7 : List PV) : Option Res := bif decide (v0 < 32) then bif okT (RT.mk v3 v4 v5) then bif decide (0 ≤ v0) && decide (v0 < zi 32) && true then rc (IntKind.i64.wrap (v0 + 1)) v1 v2 ((Ja 1 (RT.mk v3 v4 v5)).B) ((Ja 1 (RT.mk v3 v4 v5)).P) ((Ja 1 (RT.mk v3 v4 v5)).e) v6 (v7.set v0.toNat (.sc (.int .u8 (IntKind.u8.wrap (Jw 1 (RT.mk v3 v4 v5)))))) else none else none else k0 v1 v2 v3 v4 v5 v6 v7
noncomputable def Z7 (f : Nat) (k0 : Bool → Bool → List PV → Int → Int → List PV → List PV → Option Res) : Nat → Int → Bool → Bool → List PV → Int → Int → List PV → List PV → Option Res
  | 0, _, _, _, _, _, _, _, _ => none
  | n + 1, v0, v1, v2, v3, v4, v5, v6, v7 => VN f (Z7 f k0 n) k0 v0 v1 v2 v3 v4 v5 v6 v7
theorem Jna (f : Nat) (k : Kont) (n : Nat) (v0 : Int) (v1 : Bool) (v2 : Bool) (v3 : List PV) (v4 : Int) (v5 : Int) (v6 : List PV) (v7 : List PV) : Jo tau 1 X5 (fun s k => ev tau F87 1 0 JcA (Je5 ) s k) (n + 1) (Je X5 N87 [.ptr 0 [], .ptr 273 [], .ptr 274 [], .sc (.int .i64 v0)] [(0, .box false 138 (PV.st 138 [.ro 5 v1 v2 v3, .sc (.int .i64 v4), .sc (.int .i64 v5)])), (273, .box false 37 (PV.ar 37 v6)), (274, .box false 37 (PV.ar 37 v7))]) (Jv tau 1 YW k) = VN f (fun v0 v1 v2 v3 v4 v5 v6 v7 => Jo tau 1 X5 (fun s k => ev tau F87 1 0 JcA (Je5 ) s k) n (Je X5 N87 [.ptr 0 [], .ptr 273 [], .ptr 274 [], .sc (.int .i64 v0)] [(0, .box false 138 (PV.st 138 [.ro 5 v1 v2 v3, .sc (.int .i64 v4), .sc (.int .i64 v5)])), (273, .box false 37 (PV.ar 37 v6)), (274, .box false 37 (PV.ar 37 v7))]) (Jv tau 1 YW k)) (fun x0 x1 x2 x3 x4 x5 x6 => k (Ex.exit 0) (Je YW N87 [.ptr 273 [], .ptr 274 []] [(0, .box false 138 (PV.st 138 [.ro 5 x0 x1 x2, .sc (.int .i64 x3), .sc (.int .i64 x4)])), (273, .box false 37 (PV.ar 37 x5)), (274, .box false 37 (PV.ar 37 x6))])) v0 v1 v2 v3 v4 v5 v6 v7 := by kernel_rfl
theorem Jig (f : Nat) (k : Kont) : ∀ (n : Nat) (v0 : Int) (v1 : Bool) (v2 : Bool) (v3 : List PV) (v4 : Int) (v5 : Int) (v6 : List PV) (v7 : List PV), Jo tau 1 X5 (fun s k => ev tau F87 1 0 JcA (Je5 ) s k) n (Je X5 N87 [.ptr 0 [], .ptr 273 [], .ptr 274 [], .sc (.int .i64 v0)] [(0, .box false 138 (PV.st 138 [.ro 5 v1 v2 v3, .sc (.int .i64 v4), .sc (.int .i64 v5)])), (273, .box false 37 (PV.ar 37 v6)), (274, .box false 37 (PV.ar 37 v7))]) (Jv tau 1 YW k) = Z7 f (fun x0 x1 x2 x3 x4 x5 x6 => k (Ex.exit 0) (Je YW N87 [.ptr 273 [], .ptr 274 []] [(0, .box false 138 (PV.st 138 [.ro 5 x0 x1 x2, .sc (.int .i64 x3), .sc (.int .i64 x4)])), (273, .box false 37 (PV.ar 37 x5)), (274, .box false 37 (PV.ar 37 x6))])) n v0 v1 v2 v3 v4 v5 v6 v7 | 0, _, _, _, _, _, _, _, _ => rfl | n + 1, v0, v1, v2, v3, v4, v5, v6, v7 => (Jna f k n v0 v1 v2 v3 v4 v5 v6 v7).trans (congrArg (fun r => VN f r (fun x0 x1 x2 x3 x4 x5 x6 => k (Ex.exit 0) (Je YW N87 [.ptr 273 [], .ptr 274 []] [(0, .box false 138 (PV.st 138 [.ro 5 x0 x1 x2, .sc (.int .i64 x3), .sc (.int .i64 x4)])), (273, .box false 37 (PV.ar 37 x5)), (274, .box false 37 (PV.ar 37 x6))])) v0 v1 v2 v3 v4 v5 v6 v7) (by funext v0 v1 v2 v3 v4 v5 v6 v7; exact Jig f k n v0 v1 v2 v3 v4 v5 v6 v7))
noncomputable def Jbd (f : Nat) : List PV → List (Nat × Ent) → Kont → Option Res
  | [.ptr 0 [], .ptr 273 [], .ptr 274 [],
  PV.sc
    (Value.int IntKind.i64
      v0)], [(0, .box false 138 (PV.st 138 [.ro 5 v1 v2 v3, .sc (.int .i64 v4), .sc (.int .i64 v5)])), (273, .box false 37 (PV.ar 37 v6)),
  (274,
    Ent.box false 37
      (PV.ar 37
        v7))], k => Z7 f (fun x0 x1 x2 x3 x4 x5 x6 => k (Ex.exit
  0) (Je YW N87 [.ptr 273 [],
  PV.ptr 274
    []] [(0, .box false 138 (PV.st 138 [.ro 5 x0 x1 x2, .sc (.int .i64 x3), .sc (.int .i64 x4)])), (273, .box false 37 (PV.ar 37 x5)),
  (274, .box false 37 (PV.ar 37 x6))])) f v0 v1 v2 v3 v4 v5 v6 v7
  | _, _, _ => none
theorem JrC (f : Nat) : Jg JcA Je5 = [] := by kernel_rfl
theorem JuC (f : Nat) : (Item.l JcA X5 N87 (Jbd f)).Ok tau Try.prog 1 := JI Jr JkS Js (x := Je5) (nm2 := YW) (Jp _ _ (by rw [JrC f]; intro q hq; cases hq)) fun vs hp k res hr => by
  unfold Jbd at hr
  split at hr
  · exact ⟨f, 0, (Jig f _ f _ _ _ _ _ _ _ _ ).trans hr⟩
  · cases hr
noncomputable def g87 (f : Nat) (r_B_z : Bool) (r_B_f : Bool) (r_B : List PV) (r_P : Int) (r_Err : Int) (k : Res → Option Res) : Option Res := Z7 f (fun x0_0 x1_0 x2_0 x3_0 x4_0 x5_0 x6_0 => k (Res.mk (.ar 37 x6_0) [.box false 138 (PV.st 138 [.ro 5 x0_0 x1_0 x2_0, .sc (.int .i64 x3_0), .sc (.int .i64 x4_0)])] [])) f (0) r_B_z r_B_f r_B r_P r_Err ([.sc (.int .u8 0), .sc (.int .u8 0), .sc (.int .u8 0), .sc (.int .u8 0), .sc (.int .u8 0), .sc (.int .u8 0), .sc (.int .u8 0), .sc (.int .u8 0), .sc (.int .u8 0), .sc (.int .u8 0), .sc (.int .u8 0), .sc (.int .u8 0), .sc (.int .u8 0), .sc (.int .u8 0), .sc (.int .u8 0), .sc (.int .u8 0), .sc (.int .u8 0), .sc (.int .u8 0), .sc (.int .u8 0), .sc (.int .u8 0), .sc (.int .u8 0), .sc (.int .u8 0), .sc (.int .u8 0), .sc (.int .u8 0), .sc (.int .u8 0), .sc (.int .u8 0), .sc (.int .u8 0), .sc (.int .u8 0), .sc (.int .u8 0), .sc (.int .u8 0), .sc (.int .u8 0), .sc (.int .u8 0)]) ([.sc (.int .u8 0), .sc (.int .u8 0), .sc (.int .u8 0), .sc (.int .u8 0), .sc (.int .u8 0), .sc (.int .u8 0), .sc (.int .u8 0), .sc (.int .u8 0), .sc (.int .u8 0), .sc (.int .u8 0), .sc (.int .u8 0), .sc (.int .u8 0), .sc (.int .u8 0), .sc (.int .u8 0), .sc (.int .u8 0), .sc (.int .u8 0), .sc (.int .u8 0), .sc (.int .u8 0), .sc (.int .u8 0), .sc (.int .u8 0), .sc (.int .u8 0), .sc (.int .u8 0), .sc (.int .u8 0), .sc (.int .u8 0), .sc (.int .u8 0), .sc (.int .u8 0), .sc (.int .u8 0), .sc (.int .u8 0), .sc (.int .u8 0), .sc (.int .u8 0), .sc (.int .u8 0), .sc (.int .u8 0)])
theorem e87 (f : Nat) (r_B_z : Bool) (r_B_f : Bool) (r_B : List PV) (r_P : Int) (r_Err : Int) (k : Res → Option Res) : JM tau F87 Try.f87 (Try.f87.body.get!) (Jm9 (Jbd f)) [.ro] 0 [.ptr 0 []] [.box false 138 (.st 138 [.ro 5 r_B_z r_B_f r_B, .sc (.int .i64 r_P), .sc (.int .i64 r_Err)])] k = g87 f r_B_z r_B_f r_B r_P r_Err k := by kernel_rfl
theorem Jzu (f : Nat) : Jg (Try.f87.body.get!) (Jm9 (Jbd f)) = [.l JcA X5 N87 (Jbd f)] := by kernel_rfl
theorem Jzv (f : Nat) : ∀ q ∈ Jg (Try.f87.body.get!) (Jm9 (Jbd f)), q.Ok tau Try.prog 1 := by
  rw [Jzu f]; simp only [List.forall_mem_cons, List.not_mem_nil, false_implies, implies_true, and_true]; exact JuC f
theorem JuD : Try.prog.funcs[87]? = some Try.f87 := by kernel_rfl
theorem JuE : Try.f87.body = some (Try.f87.body.get!) := by kernel_rfl
theorem Jzw : Enters Try.prog 87 := enters_of JuD (by kernel_rfl) JuE
noncomputable def JuF : Fns := F0
theorem Jnb : Jz tau Try.prog JuF := JG
def Jih : An := (.seq .leaf (.seq .leaf (.seq .leaf .leaf)))
noncomputable def JuG (f : Nat) (x : Int) (k1 : Int) (k : Res → Option Res) : Option Res := bif decide (0 ≤ IntKind.u64.wrap (32 - JC BinOp.and IntKind.u64 (IntKind.u64.wrap k1) 31)) && true then k (Res.mk (.sc (.int .u32 (JC BinOp.or IntKind.u32 (WA IntKind.u32 x (JC BinOp.and IntKind.u64 (IntKind.u64.wrap k1) 31)) (JF IntKind.u32 x (IntKind.u64.wrap (32 - JC BinOp.and IntKind.u64 (IntKind.u64.wrap k1) 31)))))) [] []) else none
theorem Jzx (f : Nat) (x : Int) (k1 : Int) (k : Res → Option Res) : JM tau JuF Try.f149 (Try.f149.body.get!) Jih [.ro] 0 [.sc (.int .u32 x), .sc (.int .i64 k1)] [] k = JuG f x k1 k := by kernel_rfl
theorem JuH (f : Nat) : Jg (Try.f149.body.get!) Jih = [] := by kernel_rfl
theorem JuI (f : Nat) : ∀ q ∈ Jg (Try.f149.body.get!) Jih, q.Ok tau Try.prog 0 := by
  rw [JuH f]; intro q hq; cases hq
theorem JpB : Try.prog.funcs[149]? = some Try.f149 := by kernel_rfl
theorem JpC : Try.f149.body = some (Try.f149.body.get!) := by kernel_rfl
theorem JuJ : Enters Try.prog 149 := enters_of JpB (by kernel_rfl) JpC
noncomputable def JgM : List PV → List Ent → (Res → Option Res) → Option Res
  | [.sc (.int .u32 x), .sc (.int .i64 k1)], [], k => JuG 0 x k1 k
  | _, _, _ => none
noncomputable def JuK : Sig := { own := [], run := JgM }
theorem JuL : Ji tau Try.prog 149 JuK := JS Jr Jnb Js JpB JpC Jih [.ro] 0 [] JgM (JuI 0) fun xs es k res hr => by
  unfold JgM at hr
  split at hr
  · exact ⟨rfl, 0, (Jzx 0 _ _  _).trans hr⟩
  · cases hr
noncomputable def JuM : Fns := JD 149 JuK (F0)
theorem Jnc : Jz tau Try.prog JuM := (JG).add JuL JuJ
def Jii : An := (.seq .leaf (.seq .leaf .leaf))
noncomputable def Jnd (f : Nat) (x : Int) (n : Int) (k : Res → Option Res) : Option Res := bif decide (0 ≤ IntKind.u64.wrap (32 - JC BinOp.and IntKind.u64 (IntKind.u64.wrap (IntKind.i64.wrap (0 - n))) 31)) && true then k (Res.mk (.sc (.int .u32 (JC BinOp.or IntKind.u32 (WA IntKind.u32 x (JC BinOp.and IntKind.u64 (IntKind.u64.wrap (IntKind.i64.wrap (0 - n))) 31)) (JF IntKind.u32 x (IntKind.u64.wrap (32 - JC BinOp.and IntKind.u64 (IntKind.u64.wrap (IntKind.i64.wrap (0 - n))) 31)))))) [] []) else none
theorem Jzy (f : Nat) (x : Int) (n : Int) (k : Res → Option Res) : JM tau JuM Try.f124 (Try.f124.body.get!) Jii [.ro] 0 [.sc (.int .u32 x), .sc (.int .i64 n)] [] k = Jnd f x n k := by kernel_rfl
theorem JuN (f : Nat) : Jg (Try.f124.body.get!) Jii = [] := by kernel_rfl
theorem JuO (f : Nat) : ∀ q ∈ Jg (Try.f124.body.get!) Jii, q.Ok tau Try.prog 0 := by
  rw [JuN f]; intro q hq; cases hq
theorem JpD : Try.prog.funcs[124]? = some Try.f124 := by kernel_rfl
theorem JpE : Try.f124.body = some (Try.f124.body.get!) := by kernel_rfl
theorem JpF : Enters Try.prog 124 := enters_of JpD (by kernel_rfl) JpE
noncomputable def JgN : List PV → List Ent → (Res → Option Res) → Option Res
  | [.sc (.int .u32 x), .sc (.int .i64 n)], [], k => Jnd 0 x n k
  | _, _, _ => none
noncomputable def Jzz : Sig := { own := [], run := JgN }
theorem JuP : Ji tau Try.prog 124 Jzz := JS Jr Jnc Js JpD JpE Jii [.ro] 0 [] JgN (JuO 0) fun xs es k res hr => by
  unfold JgN at hr
  split at hr
  · exact ⟨rfl, 0, (Jzy 0 _ _  _).trans hr⟩
  · cases hr
noncomputable def F73 : Fns := F0
theorem JrD : Jz tau Try.prog F73 := JG
def Jne : An := (.seq .leaf (.seq .leaf .leaf))
noncomputable def g73 (f : Nat) (x : Int) (n : Int) (k : Res → Option Res) : Option Res := bif decide (0 ≤ n) && true then bif decide (0 ≤ IntKind.u64.wrap (32 - n)) && true then k (Res.mk (.sc (.int .u32 (JC BinOp.or IntKind.u32 (JF IntKind.u32 x n) (WA IntKind.u32 x (IntKind.u64.wrap (32 - n)))))) [] []) else none else none
theorem e73 (f : Nat) (x : Int) (n : Int) (k : Res → Option Res) : JM tau F73 Try.f73 (Try.f73.body.get!) Jne [.ro] 0 [.sc (.int .u32 x), .sc (.int .u64 n)] [] k = g73 f x n k := by kernel_rfl
theorem JzA (f : Nat) : Jg (Try.f73.body.get!) Jne = [] := by kernel_rfl
theorem JzB (f : Nat) : ∀ q ∈ Jg (Try.f73.body.get!) Jne, q.Ok tau Try.prog 0 := by
  rw [JzA f]; intro q hq; cases hq
theorem JuQ : Try.prog.funcs[73]? = some Try.f73 := by kernel_rfl
theorem JuR : Try.f73.body = some (Try.f73.body.get!) := by kernel_rfl
theorem JzC : Enters Try.prog 73 := enters_of JuQ (by kernel_rfl) JuR
noncomputable def JkT : List PV → List Ent → (Res → Option Res) → Option Res
  | [.sc (.int .u32 x), .sc (.int .u64 n)], [], k => g73 0 x n k
  | _, _, _ => none
noncomputable def s73 : Sig := { own := [], run := JkT }
theorem JzD : Ji tau Try.prog 73 s73 := JS Jr JrD Js JuQ JuR Jne [.ro] 0 [] JkT (JzB 0) fun xs es k res hr => by
  unfold JkT at hr
  split at hr
  · exact ⟨rfl, 0, (e73 0 _ _  _).trans hr⟩
  · cases hr
-- FN sha.right | ref2.rot
def rr (x n : Int) : Int := JC .or .u32 (WA .u32 x (32 - n)) (JF .u32 x n)
theorem JdE (x y : Int) : JC .or .u32 x y = JC .or .u32 y x := by
  simp only [JC]; rw [BitVec.or_comm]
theorem JkU {P : Int → Prop} (h : ∀ m : Nat, m < 31 → P ((m : Int) + 1)) (n : Int) (h1 : 1 ≤ n) (h2 : n ≤ 31) : P n := by
  have := h (n - 1).toNat (by omega)
  have he : (((n - 1).toNat : Nat) : Int) + 1 = n := by omega
  rwa [he] at this
def JdF : List PV → List Ent → (Res → Option Res) → Option Res
  | [.sc (.int .u32 x), .sc (.int .i64 n)], [], k => bif decide (1 ≤ n) && decide (n ≤ 31) then k ⟨.sc (.int .u32 (rr x n)), [], []⟩ else none
  | _, _, _ => none
def JkV : Sig := { own := [], run := JdF }
theorem JgO (x : Int) (k : Res → Option Res) (n : Int) (h1 : 1 ≤ n) (h2 : n ≤ 31) : Jnd 0 x n k = k ⟨.sc (.int .u32 (rr x n)), [], []⟩ := by
  refine JkU (P := fun n => Jnd 0 x n k = k ⟨.sc (.int .u32 (rr x n)), [], []⟩) ?_ n h1 h2
  intro m hm
  iterate 31 (rcases m with _ | m; · kernel_rfl)
  omega
theorem JkW : Ji tau Try.prog 124 JkV := JuP.of fun xs es k res hr => by
  change JdF xs es k = some res at hr
  unfold JdF at hr
  split at hr
  · obtain ⟨hc, hr⟩ := JL hr
    simp only [Bool.and_eq_true, decide_eq_true_eq] at hc
    exact (JgO _ _ _ hc.1 hc.2).trans hr
  · cases hr
def JgP : List PV → List Ent → (Res → Option Res) → Option Res
  | [.sc (.int .u32 x), .sc (.int .u64 n)], [], k => bif decide (1 ≤ n) && decide (n ≤ 31) then k ⟨.sc (.int .u32 (rr x n)), [], []⟩ else none
  | _, _, _ => none
def JuS : Sig := { own := [], run := JgP }
theorem JjN (x : Int) (k : Res → Option Res) (n : Int) (h1 : 1 ≤ n) (h2 : n ≤ 31) : g73 0 x n k = k ⟨.sc (.int .u32 (rr x n)), [], []⟩ := by
  have hc : ∀ n, rr x n = JC .or .u32 (JF .u32 x n) (WA .u32 x (32 - n)) := fun n => JdE _ _
  rw [hc]
  refine JkU (P := fun n => g73 0 x n k = k ⟨.sc (.int .u32 (JC .or .u32 (JF .u32 x n) (WA .u32 x (32 - n)))), [], []⟩) ?_ n h1 h2
  intro m hm
  iterate 31 (rcases m with _ | m; · kernel_rfl)
  omega
theorem JuT : Ji tau Try.prog 73 JuS := JzD.of fun xs es k res hr => by
  change JgP xs es k = some res at hr
  unfold JgP at hr
  split at hr
  · obtain ⟨hc, hr⟩ := JL hr
    simp only [Bool.and_eq_true, decide_eq_true_eq] at hc
    exact (JjN _ _ _ hc.1 hc.2).trans hr
  · cases hr
def XK : Nat := 89
noncomputable def Je6 : Fns := JD 124 JkV (F0)
theorem JdG : Jz tau Try.prog Je6 := (JG).add JkW JpF
noncomputable def Gx : Code := QB (Try.f122.body.get!) [1, 1, 0, 1, 0, 0]
def WH : Nm := [(0, .any), (2, .any), (3, .any), (8, .any)]
def Xf : Nm := [(2, .any), (3, .any)]
def Jbe : An := (.seq .leaf (.seq (.cond .leaf .leaf) (.seq (.block none (.seq .leaf .leaf)) .leaf)))
noncomputable def Gy : Code := QB (Try.f122.body.get!) [1, 1, 1, 0, 1, 0, 0]
def WI : Nm := [(2, .any), (3, .any), (5, .any)]
def Xg : Nm := [(2, .any), (3, .any)]
def Jbf : An := (.seq (.seq .leaf (.cond .leaf .leaf)) (.seq (.block none (.seq .leaf .leaf)) .leaf))
def JkX (r0 : QZ) (r1 : QZ) : An := (.seq .leaf (.seq .leaf (.seq (.seq .leaf (.block none (.sum WH XK r0))) (.seq (.seq .leaf (.block none (.sum WI XK r1))) (.seq .leaf .leaf)))))
noncomputable def YX (f : Nat) (rc : Bool → Bool → List PV → Int → List PV → List PV → Option Res) (k0 : List PV → List PV → Option Res) (v0 : Bool) (v1 : Bool) (v2 : List PV) (v3 : Int) (v4 : List PV) (v5 : List PV) : Option Res := bif decide (v3 < 16) then bif decide (0 ≤ IntKind.i64.wrap (4 * v3)) && decide (IntKind.i64.wrap (4 * v3) < zi v2.length) && PV.isInt IntKind.u8 (v2.getD (IntKind.i64.wrap (4 * v3)).toNat PV.top) && true then bif decide (0 ≤ IntKind.i64.wrap (IntKind.i64.wrap (4 * v3) + 1)) && decide (IntKind.i64.wrap (IntKind.i64.wrap (4 * v3) + 1) < zi v2.length) && PV.isInt IntKind.u8 (v2.getD (IntKind.i64.wrap (IntKind.i64.wrap (4 * v3) + 1)).toNat PV.top) && true then bif decide (0 ≤ IntKind.i64.wrap (IntKind.i64.wrap (4 * v3) + 2)) && decide (IntKind.i64.wrap (IntKind.i64.wrap (4 * v3) + 2) < zi v2.length) && PV.isInt IntKind.u8 (v2.getD (IntKind.i64.wrap (IntKind.i64.wrap (4 * v3) + 2)).toNat PV.top) && true then bif decide (0 ≤ IntKind.i64.wrap (IntKind.i64.wrap (4 * v3) + 3)) && decide (IntKind.i64.wrap (IntKind.i64.wrap (4 * v3) + 3) < zi v2.length) && PV.isInt IntKind.u8 (v2.getD (IntKind.i64.wrap (IntKind.i64.wrap (4 * v3) + 3)).toNat PV.top) && true then bif decide (0 ≤ v3) && decide (v3 < zi 64) && true then rc v0 v1 v2 (IntKind.i64.wrap (v3 + 1)) v4 (v5.set v3.toNat (.sc (.int .u32 (JC BinOp.or IntKind.u32 (JC BinOp.or IntKind.u32 (JC BinOp.or IntKind.u32 (WA IntKind.u32 (IntKind.u32.wrap (v2.getD (IntKind.i64.wrap (4 * v3)).toNat PV.top).int) 24) (WA IntKind.u32 (IntKind.u32.wrap (v2.getD (IntKind.i64.wrap (IntKind.i64.wrap (4 * v3) + 1)).toNat PV.top).int) 16)) (WA IntKind.u32 (IntKind.u32.wrap (v2.getD (IntKind.i64.wrap (IntKind.i64.wrap (4 * v3) + 2)).toNat PV.top).int) 8)) (IntKind.u32.wrap (v2.getD (IntKind.i64.wrap (IntKind.i64.wrap (4 * v3) + 3)).toNat PV.top).int))))) else none else none else none else none else none else k0 v4 v5
noncomputable def Xh (f : Nat) (k0 : List PV → List PV → Option Res) : Nat → Bool → Bool → List PV → Int → List PV → List PV → Option Res
  | 0, _, _, _, _, _, _ => none
  | n + 1, v0, v1, v2, v3, v4, v5 => YX f (Xh f k0 n) k0 v0 v1 v2 v3 v4 v5
theorem JkY (f : Nat) (k : Kont) (n : Nat) (v0 : Bool) (v1 : Bool) (v2 : List PV) (v3 : Int) (v4 : List PV) (v5 : List PV) : Jo tau 0 WH (fun s k => ev tau Je6 0 0 Gx (Jbe ) s k) (n + 1) (Je WH XK [.ro 5 v0 v1 v2, .ptr 1440 [], .ptr 1441 [], .sc (.int .i64 v3)] [(1440, .box false 118 (PV.ar 118 v4)), (1441, .box false 118 (PV.ar 118 v5))]) (Jv tau 0 Xf k) = YX f (fun v0 v1 v2 v3 v4 v5 => Jo tau 0 WH (fun s k => ev tau Je6 0 0 Gx (Jbe ) s k) n (Je WH XK [.ro 5 v0 v1 v2, .ptr 1440 [], .ptr 1441 [], .sc (.int .i64 v3)] [(1440, .box false 118 (PV.ar 118 v4)), (1441, .box false 118 (PV.ar 118 v5))]) (Jv tau 0 Xf k)) (fun x0 x1 => k (Ex.exit 0) (Je Xf XK [.ptr 1440 [], .ptr 1441 []] [(1440, .box false 118 (PV.ar 118 x0)), (1441, .box false 118 (PV.ar 118 x1))])) v0 v1 v2 v3 v4 v5 := by kernel_rfl
theorem Je7 (f : Nat) (k : Kont) : ∀ (n : Nat) (v0 : Bool) (v1 : Bool) (v2 : List PV) (v3 : Int) (v4 : List PV) (v5 : List PV), Jo tau 0 WH (fun s k => ev tau Je6 0 0 Gx (Jbe ) s k) n (Je WH XK [.ro 5 v0 v1 v2, .ptr 1440 [], .ptr 1441 [], .sc (.int .i64 v3)] [(1440, .box false 118 (PV.ar 118 v4)), (1441, .box false 118 (PV.ar 118 v5))]) (Jv tau 0 Xf k) = Xh f (fun x0 x1 => k (Ex.exit 0) (Je Xf XK [.ptr 1440 [], .ptr 1441 []] [(1440, .box false 118 (PV.ar 118 x0)), (1441, .box false 118 (PV.ar 118 x1))])) n v0 v1 v2 v3 v4 v5 | 0, _, _, _, _, _, _ => rfl | n + 1, v0, v1, v2, v3, v4, v5 => (JkY f k n v0 v1 v2 v3 v4 v5).trans (congrArg (fun r => YX f r (fun x0 x1 => k (Ex.exit 0) (Je Xf XK [.ptr 1440 [], .ptr 1441 []] [(1440, .box false 118 (PV.ar 118 x0)), (1441, .box false 118 (PV.ar 118 x1))])) v0 v1 v2 v3 v4 v5) (by funext v0 v1 v2 v3 v4 v5; exact Je7 f k n v0 v1 v2 v3 v4 v5))
noncomputable def Gz (f : Nat) : List PV → List (Nat × Ent) → Kont → Option Res
  | [.ro 5 v0 v1 v2, .ptr 1440 [], .ptr 1441 [],
  PV.sc
    (Value.int IntKind.i64
      v3)], [(1440, .box false 118 (PV.ar 118 v4)),
  (1441,
    Ent.box false 118
      (PV.ar 118
        v5))], k => Xh f (fun x0 x1 => k (Ex.exit
  0) (Je Xf XK [.ptr 1440 [], .ptr 1441 []] [(1440, .box false 118 (PV.ar 118 x0)), (1441, .box false 118 (PV.ar 118 x1))])) f v0 v1 v2 v3 v4 v5
  | _, _, _ => none
theorem Jnf (f : Nat) : Jg Gx Jbe = [] := by kernel_rfl
theorem JrE (f : Nat) : (Item.l Gx WH XK (Gz f)).Ok tau Try.prog 0 := JI Jr JdG Js (x := Jbe) (nm2 := Xf) (Jp _ _ (by rw [Jnf f]; intro q hq; cases hq)) fun vs hp k res hr => by
  unfold Gz at hr
  split at hr
  · exact ⟨f, 0, (Je7 f _ f _ _ _ _ _ _ ).trans hr⟩
  · cases hr
noncomputable def YY (f : Nat) (rc : Int → List PV → List PV → Option Res) (k0 : List PV → List PV → Option Res) (v0 : Int) (v1 : List PV) (v2 : List PV) : Option Res := bif decide (v0 < 64) then bif decide (0 ≤ IntKind.i64.wrap (v0 - 15)) && decide (IntKind.i64.wrap (v0 - 15) < zi 64) && true then bif PV.isInt IntKind.u32 (Jj (PV.ar 118 v2) [(IntKind.i64.wrap (v0 - 15)).toNat]) && true then bif decide (0 ≤ IntKind.i64.wrap (v0 - 2)) && decide (IntKind.i64.wrap (v0 - 2) < zi 64) && true then bif PV.isInt IntKind.u32 (Jj (PV.ar 118 v2) [(IntKind.i64.wrap (v0 - 2)).toNat]) && true then bif decide (0 ≤ IntKind.i64.wrap (v0 - 16)) && decide (IntKind.i64.wrap (v0 - 16) < zi 64) && true then bif PV.isInt IntKind.u32 (Jj (PV.ar 118 v2) [(IntKind.i64.wrap (v0 - 16)).toNat]) && true then bif decide (0 ≤ IntKind.i64.wrap (v0 - 7)) && decide (IntKind.i64.wrap (v0 - 7) < zi 64) && true then bif PV.isInt IntKind.u32 (Jj (PV.ar 118 v2) [(IntKind.i64.wrap (v0 - 7)).toNat]) && true then bif decide (0 ≤ v0) && decide (v0 < zi 64) && true then rc (IntKind.i64.wrap (v0 + 1)) v1 (v2.set v0.toNat (.sc (.int .u32 (IntKind.u32.wrap (IntKind.u32.wrap (IntKind.u32.wrap ((Jj (PV.ar 118 v2) [(IntKind.i64.wrap (v0 - 16)).toNat]).int + JC BinOp.xor IntKind.u32 (JC BinOp.xor IntKind.u32 (rr (Jj (PV.ar 118 v2) [(IntKind.i64.wrap (v0 - 15)).toNat]).int 7) (rr (Jj (PV.ar 118 v2) [(IntKind.i64.wrap (v0 - 15)).toNat]).int 18)) (JF IntKind.u32 (Jj (PV.ar 118 v2) [(IntKind.i64.wrap (v0 - 15)).toNat]).int 3)) + (Jj (PV.ar 118 v2) [(IntKind.i64.wrap (v0 - 7)).toNat]).int) + JC BinOp.xor IntKind.u32 (JC BinOp.xor IntKind.u32 (rr (Jj (PV.ar 118 v2) [(IntKind.i64.wrap (v0 - 2)).toNat]).int 17) (rr (Jj (PV.ar 118 v2) [(IntKind.i64.wrap (v0 - 2)).toNat]).int 19)) (JF IntKind.u32 (Jj (PV.ar 118 v2) [(IntKind.i64.wrap (v0 - 2)).toNat]).int 10)))))) else none else none else none else none else none else none else none else none else none else k0 v1 v2
noncomputable def Xi (f : Nat) (k0 : List PV → List PV → Option Res) : Nat → Int → List PV → List PV → Option Res
  | 0, _, _, _ => none
  | n + 1, v0, v1, v2 => YY f (Xi f k0 n) k0 v0 v1 v2
theorem JkZ (f : Nat) (k : Kont) (n : Nat) (v0 : Int) (v1 : List PV) (v2 : List PV) : Jo tau 0 WI (fun s k => ev tau Je6 0 0 Gy (Jbf ) s k) (n + 1) (Je WI XK [.ptr 1440 [], .ptr 1441 [], .sc (.int .i64 v0)] [(1440, .box false 118 (PV.ar 118 v1)), (1441, .box false 118 (PV.ar 118 v2))]) (Jv tau 0 Xg k) = YY f (fun v0 v1 v2 => Jo tau 0 WI (fun s k => ev tau Je6 0 0 Gy (Jbf ) s k) n (Je WI XK [.ptr 1440 [], .ptr 1441 [], .sc (.int .i64 v0)] [(1440, .box false 118 (PV.ar 118 v1)), (1441, .box false 118 (PV.ar 118 v2))]) (Jv tau 0 Xg k)) (fun x0 x1 => k (Ex.exit 2) (Je Xg XK [.ptr 1440 [], .ptr 1441 []] [(1440, .box false 118 (PV.ar 118 x0)), (1441, .box false 118 (PV.ar 118 x1))])) v0 v1 v2 := by kernel_rfl
theorem Je8 (f : Nat) (k : Kont) : ∀ (n : Nat) (v0 : Int) (v1 : List PV) (v2 : List PV), Jo tau 0 WI (fun s k => ev tau Je6 0 0 Gy (Jbf ) s k) n (Je WI XK [.ptr 1440 [], .ptr 1441 [], .sc (.int .i64 v0)] [(1440, .box false 118 (PV.ar 118 v1)), (1441, .box false 118 (PV.ar 118 v2))]) (Jv tau 0 Xg k) = Xi f (fun x0 x1 => k (Ex.exit 2) (Je Xg XK [.ptr 1440 [], .ptr 1441 []] [(1440, .box false 118 (PV.ar 118 x0)), (1441, .box false 118 (PV.ar 118 x1))])) n v0 v1 v2 | 0, _, _, _ => rfl | n + 1, v0, v1, v2 => (JkZ f k n v0 v1 v2).trans (congrArg (fun r => YY f r (fun x0 x1 => k (Ex.exit 2) (Je Xg XK [.ptr 1440 [], .ptr 1441 []] [(1440, .box false 118 (PV.ar 118 x0)), (1441, .box false 118 (PV.ar 118 x1))])) v0 v1 v2) (by funext v0 v1 v2; exact Je8 f k n v0 v1 v2))
noncomputable def GA (f : Nat) : List PV → List (Nat × Ent) → Kont → Option Res
  | [.ptr 1440 [], .ptr 1441 [],
  PV.sc
    (Value.int IntKind.i64
      v0)], [(1440, .box false 118 (PV.ar 118 v1)),
  (1441,
    Ent.box false 118
      (PV.ar 118
        v2))], k => Xi f (fun x0 x1 => k (Ex.exit
  2) (Je Xg XK [.ptr 1440 [], .ptr 1441 []] [(1440, .box false 118 (PV.ar 118 x0)), (1441, .box false 118 (PV.ar 118 x1))])) f v0 v1 v2
  | _, _, _ => none
theorem Jng (f : Nat) : Jg Gy Jbf = [] := by kernel_rfl
theorem JrF (f : Nat) : (Item.l Gy WI XK (GA f)).Ok tau Try.prog 0 := JI Jr JdG Js (x := Jbf) (nm2 := Xg) (Jp _ _ (by rw [Jng f]; intro q hq; cases hq)) fun vs hp k res hr => by
  unfold GA at hr
  split at hr
  · exact ⟨f, 0, (Je8 f _ f _ _ _ ).trans hr⟩
  · cases hr
noncomputable def JuU (f : Nat) (b_z : Bool) (b_f : Bool) (b : List PV) (k : Res → Option Res) : Option Res := Xh f (fun x0_0 x1_0 => Xi f (fun x0_1 x1_1 => k (Res.mk (.ar 118 x1_1) [] [])) f (16) x0_0 x1_0) f b_z b_f b (0) ([.sc (.int .u32 0), .sc (.int .u32 0), .sc (.int .u32 0), .sc (.int .u32 0), .sc (.int .u32 0), .sc (.int .u32 0), .sc (.int .u32 0), .sc (.int .u32 0), .sc (.int .u32 0), .sc (.int .u32 0), .sc (.int .u32 0), .sc (.int .u32 0), .sc (.int .u32 0), .sc (.int .u32 0), .sc (.int .u32 0), .sc (.int .u32 0), .sc (.int .u32 0), .sc (.int .u32 0), .sc (.int .u32 0), .sc (.int .u32 0), .sc (.int .u32 0), .sc (.int .u32 0), .sc (.int .u32 0), .sc (.int .u32 0), .sc (.int .u32 0), .sc (.int .u32 0), .sc (.int .u32 0), .sc (.int .u32 0), .sc (.int .u32 0), .sc (.int .u32 0), .sc (.int .u32 0), .sc (.int .u32 0), .sc (.int .u32 0), .sc (.int .u32 0), .sc (.int .u32 0), .sc (.int .u32 0), .sc (.int .u32 0), .sc (.int .u32 0), .sc (.int .u32 0), .sc (.int .u32 0), .sc (.int .u32 0), .sc (.int .u32 0), .sc (.int .u32 0), .sc (.int .u32 0), .sc (.int .u32 0), .sc (.int .u32 0), .sc (.int .u32 0), .sc (.int .u32 0), .sc (.int .u32 0), .sc (.int .u32 0), .sc (.int .u32 0), .sc (.int .u32 0), .sc (.int .u32 0), .sc (.int .u32 0), .sc (.int .u32 0), .sc (.int .u32 0), .sc (.int .u32 0), .sc (.int .u32 0), .sc (.int .u32 0), .sc (.int .u32 0), .sc (.int .u32 0), .sc (.int .u32 0), .sc (.int .u32 0), .sc (.int .u32 0)]) ([.sc (.int .u32 0), .sc (.int .u32 0), .sc (.int .u32 0), .sc (.int .u32 0), .sc (.int .u32 0), .sc (.int .u32 0), .sc (.int .u32 0), .sc (.int .u32 0), .sc (.int .u32 0), .sc (.int .u32 0), .sc (.int .u32 0), .sc (.int .u32 0), .sc (.int .u32 0), .sc (.int .u32 0), .sc (.int .u32 0), .sc (.int .u32 0), .sc (.int .u32 0), .sc (.int .u32 0), .sc (.int .u32 0), .sc (.int .u32 0), .sc (.int .u32 0), .sc (.int .u32 0), .sc (.int .u32 0), .sc (.int .u32 0), .sc (.int .u32 0), .sc (.int .u32 0), .sc (.int .u32 0), .sc (.int .u32 0), .sc (.int .u32 0), .sc (.int .u32 0), .sc (.int .u32 0), .sc (.int .u32 0), .sc (.int .u32 0), .sc (.int .u32 0), .sc (.int .u32 0), .sc (.int .u32 0), .sc (.int .u32 0), .sc (.int .u32 0), .sc (.int .u32 0), .sc (.int .u32 0), .sc (.int .u32 0), .sc (.int .u32 0), .sc (.int .u32 0), .sc (.int .u32 0), .sc (.int .u32 0), .sc (.int .u32 0), .sc (.int .u32 0), .sc (.int .u32 0), .sc (.int .u32 0), .sc (.int .u32 0), .sc (.int .u32 0), .sc (.int .u32 0), .sc (.int .u32 0), .sc (.int .u32 0), .sc (.int .u32 0), .sc (.int .u32 0), .sc (.int .u32 0), .sc (.int .u32 0), .sc (.int .u32 0), .sc (.int .u32 0), .sc (.int .u32 0), .sc (.int .u32 0), .sc (.int .u32 0), .sc (.int .u32 0)])
theorem JzE (f : Nat) (b_z : Bool) (b_f : Bool) (b : List PV) (k : Res → Option Res) : JM tau Je6 Try.f122 (Try.f122.body.get!) (JkX (Gz f) (GA f)) [] 0 [.ro 5 b_z b_f b] [] k = JuU f b_z b_f b k := by kernel_rfl
theorem JuV (f : Nat) : Jg (Try.f122.body.get!) (JkX (Gz f) (GA f)) = [.l Gx WH XK (Gz f), .l Gy WI XK (GA f)] := by kernel_rfl
theorem JuW (f : Nat) : ∀ q ∈ Jg (Try.f122.body.get!) (JkX (Gz f) (GA f)), q.Ok tau Try.prog 0 := by
  rw [JuV f]; simp only [List.forall_mem_cons, List.not_mem_nil, false_implies, implies_true, and_true]; exact ⟨JrE f, JrF f⟩
theorem JpG : Try.prog.funcs[122]? = some Try.f122 := by kernel_rfl
theorem JpH : Try.f122.body = some (Try.f122.body.get!) := by kernel_rfl
theorem JuX : Enters Try.prog 122 := enters_of JpG (by kernel_rfl) JpH
-- FN sha.spread
abbrev ww (x : Int) : Int := IntKind.u32.wrap x
def JuY (a b c d : Int) : Int := JC .or .u32 (JC .or .u32 (JC .or .u32 (WA .u32 (ww a) 24) (WA .u32 (ww b) 16)) (WA .u32 (ww c) 8)) (ww d)
def sg0 (x : Int) : Int := JC .xor .u32 (JC .xor .u32 (rr x 7) (rr x 18)) (JF .u32 x 3)
def sg1 (x : Int) : Int := JC .xor .u32 (JC .xor .u32 (rr x 17) (rr x 19)) (JF .u32 x 10)
def Jnh (w16 w15 w7 w2 : Int) : Int := ww (ww (ww (w16 + sg0 w15) + w7) + sg1 w2)
def Jb1 (bs : List Int) (j : Nat) : Int := JuY (bs.getD (4 * j) 0) (bs.getD (4 * j + 1) 0) (bs.getD (4 * j + 2) 0) (bs.getD (4 * j + 3) 0)
def Qo (bs : List Int) : Nat → List Int
  | 0 => (List.range 16).map (Jb1 bs)
  | i + 1 => Qo bs i ++ [Jnh ((Qo bs i).getD i 0) ((Qo bs i).getD (i + 1) 0) ((Qo bs i).getD (i + 9) 0) ((Qo bs i).getD (i + 14) 0)]
def Qh (bs : List Int) : List Int := Qo bs 48
theorem JW (bs : List Int) : ∀ i, (Qo bs i).length = 16 + i
  | 0 => by simp [Qo]
  | i + 1 => by simp [Qo, JW bs i]; omega
def Jbg (bs : List Int) (i : Nat) : List Int := (List.range i).map (Jb1 bs) ++ List.replicate (64 - i) 0
def G8 (bs : List Int) (i : Nat) : List Int := Qo bs i ++ List.replicate (48 - i) 0
theorem JdH (bs : List Int) (i : Nat) (h : i ≤ 48) : (G8 bs i).length = 64 := by simp [G8, JW]; omega
theorem Je9 (L : List Int) (m : Nat) (x : Int) : (L ++ List.replicate (m + 1) 0).set L.length x = (L ++ [x]) ++ List.replicate m 0 := by
  simp [List.replicate_succ]
theorem JjO (bs : List Int) (i : Nat) (h : i < 64) : (Jbg bs i).set i (Jb1 bs i) = Jbg bs (i + 1) := by
  have := Je9 ((List.range i).map (Jb1 bs)) (63 - i) (Jb1 bs i)
  simp only [List.length_map, List.length_range] at this
  simp only [Jbg, show 64 - i = 63 - i + 1 from by omega, this, show 64 - (i + 1) = 63 - i from by omega, List.range_succ, List.map_append, List.map_cons, List.map_nil]
theorem ZF (bs : List Int) (i j : Nat) (h : j < 16 + i) : (G8 bs i).getD j 0 = (Qo bs i).getD j 0 := by
  simp only [G8, List.getD_eq_getElem?_getD]
  rw [List.getElem?_append_left (by rw [JW]; exact h)]
theorem JjP (bs : List Int) (i : Nat) (h : i < 48) (x : Int) : (G8 bs i).set (i + 16) x = (Qo bs i ++ [x]) ++ List.replicate (48 - (i + 1)) 0 := by
  have := Je9 (Qo bs i) (47 - i) x
  rw [JW] at this
  rw [G8, show 48 - i = 47 - i + 1 from by omega, show i + 16 = 16 + i from by omega, this, show 48 - (i + 1) = 47 - i from by omega]
theorem Jk0 (bs : List Int) (hb : bs.length = 64) (f : Nat) (k0 : List PV → List PV → Option Res) (nl fl : Bool) (w : List PV) : ∀ (d i n : Nat), i + d = 16 → d < n →
    Xh f k0 n nl fl (pu .u8 bs) (i : Int) w (pu .u32 (Jbg bs i)) = k0 w (pu .u32 (Jbg bs 16))
  | 0, i, n + 1, h, hn => by
      obtain rfl : i = 16 := by omega
      simp only [Xh, YX]
      exact JK (by decide)
  | d + 1, i, n + 1, h, hn => by
      have h4 : IntKind.i64.wrap (4 * (i : Int)) = ((4 * i : Nat) : Int) := by rw [wrap_i64 (by omega) (by omega)]; omega
      have h41 : IntKind.i64.wrap (((4 * i : Nat) : Int) + 1) = ((4 * i + 1 : Nat) : Int) := by rw [wrap_i64 (by omega) (by omega)]; omega
      have h42 : IntKind.i64.wrap (((4 * i : Nat) : Int) + 2) = ((4 * i + 2 : Nat) : Int) := by rw [wrap_i64 (by omega) (by omega)]; omega
      have h43 : IntKind.i64.wrap (((4 * i : Nat) : Int) + 3) = ((4 * i + 3 : Nat) : Int) := by rw [wrap_i64 (by omega) (by omega)]; omega
      have h5 : IntKind.i64.wrap ((i : Int) + 1) = ((i + 1 : Nat) : Int) := by rw [wrap_i64 (by omega) (by omega)]; omega
      simp only [Xh, YX, h4, h41, h42, h43, h5, Int.toNat_natCast, zi]
      rw [JV (by omega), JV (by omega), JV (by omega), JV (by omega), Qn (by omega), Qn (by omega), Qn (by omega), Qn (by omega), JO, Wm]
      refine (Jc (by simp; omega)).trans ?_
      refine (Jc (by simp; omega)).trans ?_
      refine (Jc (by simp; omega)).trans ?_
      refine (Jc (by simp; omega)).trans ?_
      refine (Jc (by simp; omega)).trans ?_
      refine (Jc (by simp; omega)).trans ?_
      have := Jk0 bs hb f k0 nl fl w d (i + 1) n (by omega) (by omega)
      rw [← JjO bs i (by omega)] at this
      exact this
theorem Jk1 (bs : List Int) (f : Nat) (k0 : List PV → List PV → Option Res) (w : List PV) : ∀ (d i n : Nat), i + d = 48 → d < n →
    Xi f k0 n ((i + 16 : Nat) : Int) w (pu .u32 (G8 bs i)) = k0 w (pu .u32 (Qo bs 48))
  | 0, i, n + 1, h, hn => by
      obtain rfl : i = 48 := by omega
      simp only [Xi, YY]
      exact (JK (by decide)).trans (by simp [G8])
  | d + 1, i, n + 1, h, hn => by
      have h15 : IntKind.i64.wrap (((i + 16 : Nat) : Int) - 15) = ((i + 1 : Nat) : Int) := by rw [wrap_i64 (by omega) (by omega)]; omega
      have h2 : IntKind.i64.wrap (((i + 16 : Nat) : Int) - 2) = ((i + 14 : Nat) : Int) := by rw [wrap_i64 (by omega) (by omega)]; omega
      have h16 : IntKind.i64.wrap (((i + 16 : Nat) : Int) - 16) = ((i : Nat) : Int) := by rw [wrap_i64 (by omega) (by omega)]; omega
      have h7 : IntKind.i64.wrap (((i + 16 : Nat) : Int) - 7) = ((i + 9 : Nat) : Int) := by rw [wrap_i64 (by omega) (by omega)]; omega
      have h1 : IntKind.i64.wrap (((i + 16 : Nat) : Int) + 1) = ((i + 1 + 16 : Nat) : Int) := by rw [wrap_i64 (by omega) (by omega)]; omega
      have hl := JdH bs i (by omega)
      simp only [Xi, YY, h15, h2, h16, h7, h1, Int.toNat_natCast, zi, WE]
      rw [JV (by omega), JV (by omega), JV (by omega), JV (by omega), Qn (by omega), Qn (by omega), Qn (by omega), Qn (by omega), Wm]
      refine (Jc (by simp; omega)).trans ?_
      refine (Jc (by simp; omega)).trans ?_
      refine (Jc (by simp)).trans ?_
      refine (Jc (by simp; omega)).trans ?_
      refine (Jc (by simp)).trans ?_
      refine (Jc (by simp; omega)).trans ?_
      refine (Jc (by simp)).trans ?_
      refine (Jc (by simp; omega)).trans ?_
      refine (Jc (by simp)).trans ?_
      refine (Jc (by simp; omega)).trans ?_
      have := Jk1 bs f k0 w d (i + 1) n (by omega) (by omega)
      rw [ZF bs i i (by omega), ZF bs i (i + 1) (by omega), ZF bs i (i + 9) (by omega), ZF bs i (i + 14) (by omega), JjP bs i (by omega)]
      exact this
theorem Jni (bs : List Int) (hb : bs.length = 64) (nl fl : Bool) (k : Res → Option Res) : JuU 100 nl fl (pu .u8 bs) k = k ⟨.ar 118 (pu .u32 (Qh bs)), [], []⟩ := by
  have h0 : ∀ k0 w, Xh 100 k0 100 nl fl (pu .u8 bs) 0 w (pu .u32 (List.replicate 64 0)) = k0 w (pu .u32 (Jbg bs 16)) := fun k0 w => Jk0 bs hb 100 k0 nl fl w 16 0 100 (by omega) (by omega)
  have h1 : ∀ k0 w, Xi 100 k0 100 16 w (pu .u32 (Jbg bs 16)) = k0 w (pu .u32 (Qo bs 48)) := fun k0 w => Jk1 bs 100 k0 w 48 0 100 (by omega) (by omega)
  exact (h0 _ _).trans (h1 _ _)
def JdI : List PV → List Ent → (Res → Option Res) → Option Res
  | [.ro 5 nl fl b], [], k => bif Jh .u8 b && decide (b.length = 64) then k ⟨.ar 118 (pu .u32 (Qh (Jd b))), [], []⟩ else none
  | _, _, _ => none
def JpI : Sig := { own := [], run := JdI }
theorem JrG : Ji tau Try.prog 122 JpI := JS Jr JdG Js JpG JpH _ [] 0 [] JdI (JuW 100) fun xs es k res hr => by
  unfold JdI at hr
  split at hr
  · obtain ⟨hc, hr⟩ := JL hr
    simp only [Bool.and_eq_true, decide_eq_true_eq] at hc
    refine ⟨rfl, 0, (JzE 100 _ _ _ _).trans ?_⟩
    rw [Qb hc.1, Jni _ (by simpa using hc.2)]
    exact hr
  · cases hr
def Qz (g : Nat → Int) (t : List Int) (i : Nat) : List Int := (List.range i).map g ++ t.drop i
theorem QF (g : Nat → Int) (t : List Int) : Qz g t 0 = t := by simp [Qz]
theorem Q0 (g : Nat → Int) (t : List Int) : Qz g t t.length = (List.range t.length).map g := by simp [Qz]
theorem X6 (g : Nat → Int) (t : List Int) (i : Nat) (h : i ≤ t.length) : (Qz g t i).length = t.length := by simp [Qz]; omega
theorem Qs (g : Nat → Int) (t : List Int) (i : Nat) (h : i < t.length) : (Qz g t i).set i (g i) = Qz g t (i + 1) := by
  rw [Qz, List.set_append_right _ _ (by simp), List.drop_eq_getElem_cons h, List.length_map, List.length_range, Nat.sub_self, List.set_cons_zero]
  simp [Qz, List.range_succ]
theorem GB (g : Nat → Int) (t : List Int) (i : Nat) (h : i < t.length) : (Qz g t i).getD i 0 = t.getD i 0 := by
  simp only [Qz, List.getD_eq_getElem?_getD]
  rw [List.getElem?_append_right (by simp)]
  simp
def kks : List Int := [1116352408, 1899447441, 3049323471, 3921009573, 961987163, 1508970993, 2453635748, 2870763221, 3624381080, 310598401, 607225278, 1426881987, 1925078388, 2162078206, 2614888103, 3248222580, 3835390401, 4022224774, 264347078, 604807628, 770255983, 1249150122, 1555081692, 1996064986, 2554220882, 2821834349, 2952996808, 3210313671, 3336571891, 3584528711, 113926993, 338241895, 666307205, 773529912, 1294757372, 1396182291, 1695183700, 1986661051, 2177026350, 2456956037, 2730485921, 2820302411, 3259730800, 3345764771, 3516065817, 3600352804, 4094571909, 275423344, 430227734, 506948616, 659060556, 883997877, 958139571, 1322822218, 1537002063, 1747873779, 1955562222, 2024104815, 2227730452, 2361852424, 2428436474, 2756734187, 3204031479, 3329325298]
def iv : List Int := [1779033703, 3144134277, 1013904242, 2773480762, 1359893119, 2600822924, 528734635, 1541459225]
def xW (k w h e f g : Int) : Int := ww (ww (ww (ww (h + JC .xor .u32 (JC .xor .u32 (rr e 6) (rr e 11)) (rr e 25)) + JC .xor .u32 (JC .and .u32 e f) (JC .and .u32 (JC .xor .u32 (Int.ofNat (2 ^ IntKind.u32.bits - Nat.succ 0)) e) g)) + k) + w)
def yW (a b c : Int) : Int := ww (JC .xor .u32 (JC .xor .u32 (rr a 2) (rr a 13)) (rr a 22) + JC .xor .u32 (JC .xor .u32 (JC .and .u32 a b) (JC .and .u32 a c)) (JC .and .u32 b c))
def rnd (k w : Int) (t : List Int) : List Int :=
  [ww (xW k w (t.getD 7 0) (t.getD 4 0) (t.getD 5 0) (t.getD 6 0) + yW (t.getD 0 0) (t.getD 1 0) (t.getD 2 0)), t.getD 0 0, t.getD 1 0, t.getD 2 0,
    ww (t.getD 3 0 + xW k w (t.getD 7 0) (t.getD 4 0) (t.getD 5 0) (t.getD 6 0)), t.getD 4 0, t.getD 5 0, t.getD 6 0]
def YZ (W s : List Int) : Nat → List Int
  | 0 => s
  | i + 1 => rnd (kks.getD i 0) (W.getD i 0) (YZ W s i)
theorem Xj (W s : List Int) (h : s.length = 8) : ∀ i, (YZ W s i).length = 8
  | 0 => h
  | i + 1 => rfl
def Jfa (s bs : List Int) : List Int := (List.range 8).map fun i => ww ((YZ (Qh bs) s 64).getD i 0 + s.getD i 0)
theorem Jfb (s bs : List Int) : (Jfa s bs).length = 8 := by simp [Jfa]
def Wd (s b : List Int) : Nat → List Int
  | 0 => s
  | n + 1 => Jfa (Wd s b n) ((b.drop (64 * n)).take 64)
theorem WJ (s b : List Int) (h : s.length = 8) : ∀ n, (Wd s b n).length = 8
  | 0 => h
  | n + 1 => Jfb _ _
def zs (m : Nat) : Nat := (120 - m % 64) % 64
def Jnj (n : Nat) : List Int := (List.range 8).map fun (i : Nat) => IntKind.u8.wrap (JF .u64 (IntKind.u64.wrap (IntKind.u64.wrap (n : Int) * 8)) (56 - 8 * (i : Int)))
def QA (bs : List Int) : List Int := (bs ++ [128] ++ List.replicate (zs (bs.length + 1)) 0) ++ Jnj bs.length
theorem G9 (bs : List Int) : (QA bs).length = 64 * ((QA bs).length / 64) := by
  have : (QA bs).length = bs.length + 1 + zs (bs.length + 1) + 8 := by simp [QA, Jnj]; omega
  rw [this]; unfold zs; omega
def YC (s : List Int) (i : Nat) : Int := IntKind.u8.wrap (JF .u32 (s.getD (i / 4) 0) (24 - 8 * ((i % 4 : Nat) : Int)))
def JjQ (s : List Int) : List Int := (List.range 32).map (YC s)
def Jij (bs : List Int) : List Int := JjQ (Wd iv (QA bs) ((QA bs).length / 64))
def JA (bs : List Int) : List Int := bif Nat.ble bs.length bs.length then Jij bs else []
theorem Jaw (bs : List Int) : JA bs = Jij bs := by
  have : Nat.ble bs.length bs.length = true := by rw [Nat.ble_eq]; exact Nat.le_refl _
  rw [JA, this]; rfl
theorem J8 (bs : List Int) : (JA bs).length = 32 := by simp [Jaw, Jij, JjQ]
theorem Jbh (n : Nat) : (zi n).tmod 64 = ((n % 64 : Nat) : Int) := by
  show (n : Int).tmod 64 = _
  rw [Int.tmod_eq_emod_of_nonneg (by omega)]; omega
-- FN ref8.Hash
def GC : Nat → RS → RS
  | 0, s => s
  | n + 1, s => GC n (J1 1 s)
def ZO : Nat → RS → List Int
  | 0, _ => []
  | n + 1, s => IntKind.u8.wrap (QI 1 s) :: ZO n (J1 1 s)
def Jbi : Nat → RT → RT
  | 0, t => t
  | n + 1, t => Jbi n (QE 1 t)
noncomputable def hashS : RS → RS := hid (GC 32)
noncomputable def hashV : RS → List Int := hid (ZO 32)
noncomputable def hashT : RT → RT := hid (Jbi 32)
noncomputable def hashVT : RT → List Int := hid fun t => ZO 32 t.view
theorem hashS_eq (s : RS) : hashS s = GC 32 s := by rw [hashS, hid_eq]
theorem hashV_eq (s : RS) : hashV s = ZO 32 s := by rw [hashV, hid_eq]
theorem hashT_eq (t : RT) : hashT t = Jbi 32 t := by rw [hashT, hid_eq]
theorem hashVT_eq (t : RT) : hashVT t = ZO 32 t.view := by rw [hashVT, hid_eq]
theorem Jaa : ∀ (n : Nat) (s : RS), (ZO n s).length = n
  | 0, _ => rfl
  | n + 1, s => by simp [ZO, Jaa n]
@[simp] theorem hashV_length (s : RS) : (hashV s).length = 32 := by rw [hashV_eq]; exact Jaa 32 s
theorem JcB : ∀ (n : Nat) (t : RT), (Jbi n t).view = GC n t.view
  | 0, _ => rfl
  | n + 1, t => by simp only [Jbi, GC, JcB n, XJ]
@[simp] theorem hashT_view (t : RT) : (hashT t).view = hashS t.view := by rw [hashT_eq, hashS_eq, JcB]
@[simp] theorem hashVT_val (t : RT) : hashVT t = hashV t.view := by rw [hashVT_eq, hashV_eq]
theorem Jik : ∀ (n : Nat) {t : RT}, okT t = true → okT (Jbi n t) = true
  | 0, _, h => h
  | n + 1, t, h => Jik n (YT h 1)
@[simp] theorem Jk2 {t : RT} (h : okT t = true) : okT (hashT t) = true := by rw [hashT_eq]; exact Jik 32 h
theorem JdJ : ∀ (n : Nat) {s : RS}, byB s.b = true → byB (GC n s).b = true
  | 0, _, h => h
  | n + 1, s, h => JdJ n (XI h 1)
theorem JpJ (f : Nat) (k0 : Bool → Bool → List PV → Int → Int → List PV → List PV → Option Res) (z fl : Bool) (h0 : List PV) : ∀ (d i n : Nat) (t : RT) (L : List Int), i + d = 32 → d < n → okT t = true → L.length = 32 →
    Z7 f k0 n (i : Int) z fl t.B t.P t.e h0 (pu .u8 L) = k0 z fl (Jbi d t).B (Jbi d t).P (Jbi d t).e h0 (pu .u8 (L.take i ++ ZO d t.view))
  | 0, i, n + 1, t, L, h, hn, hk, hL => by
      obtain rfl : i = 32 := by omega
      simp only [Z7, VN, Jbi, ZO, List.append_nil]
      rw [List.take_of_length_le (by omega)]
      exact JK (by decide)
  | d + 1, i, n + 1, t, L, h, hn, hk, hL => by
      have g1 : ((i : Int)).toNat = i := by omega
      have w1 : IntKind.i64.wrap ((i : Int) + 1) = ((i + 1 : Nat) : Int) := by rw [wrap_i64 (by omega) (by omega)]; omega
      simp only [Z7, VN, g1, w1, Wm]
      refine (Jc (by simp; omega)).trans ((Jc hk).trans ((Jc (by simp; omega)).trans ?_))
      have := JpJ f k0 z fl h0 d (i + 1) n (QE 1 t) (L.set i (IntKind.u8.wrap (Jw 1 t))) (by omega) (by omega) (YT hk 1) (by simpa using hL)
      rw [Wv]
      refine this.trans ?_
      have hset : (L.set i (IntKind.u8.wrap (Jw 1 t))).take (i + 1) = L.take i ++ [IntKind.u8.wrap (Jw 1 t)] := by
        rw [List.take_add_one, List.take_set_of_le (Nat.le_refl i), List.getElem?_set_self (by omega)]; rfl
      rw [hset, XJ, Jav]
      simp only [Jbi, ZO, List.append_assoc, List.cons_append, List.nil_append]
noncomputable def JgQ : List PV → List Ent → (Res → Option Res) → Option Res
  | [.ptr 0 []], [.box false 138 (.st 138 [.ro 5 z f B, .sc (.int .i64 P), .sc (.int .i64 e)])], k =>
    bif okT ⟨B, P, e⟩ then k ⟨.ar 37 (pu .u8 (hashVT ⟨B, P, e⟩)), [rfP z f (hashT ⟨B, P, e⟩)], []⟩ else none
  | _, _, _ => none
noncomputable def JuZ : Sig := { own := [], run := JgQ }
theorem Ju0 : Ji tau Try.prog 87 JuZ := Ji.mk' fun xs es k res hl hr => by
  change JgQ xs es k = some res at hr
  unfold JgQ at hr
  split at hr
  · rename_i z f B P e
    obtain ⟨hc, hr⟩ := JL hr
    have hg : g87 40 z f B P e k = some res := by
      have h := JpJ 40 (fun x0_0 x1_0 x2_0 x3_0 x4_0 x5_0 x6_0 => k (Res.mk (.ar 37 x6_0) [.box false 138 (.st 138 [.ro 5 x0_0 x1_0 x2_0, .sc (.int .i64 x3_0), .sc (.int .i64 x4_0)])] [])) z f (pu .u8 (List.replicate 32 0)) 32 0 40 ⟨B, P, e⟩ (List.replicate 32 0) (by omega) (by omega) hc (by simp)
      rw [List.take_zero, List.nil_append] at h
      rw [hashVT_eq, hashT_eq] at hr
      exact Eq.trans h hr
    exact QQ Jr JkS Js JuD JuE (Jm9 (Jbd 40)) [.ro] 1 0 (Jzv 40) hl rfl ((e87 40 z f B P e k).trans hg)
  · cases hr
-- FN wire.read
noncomputable def fS : Nat → RS → RS
  | 0, s => s
  | 1, s => Jb 1 s
  | n + 2, s => Jb 8 (fS (n + 1) s)
def Y0 (c : Int) (s : RS) : RS := ⟨s.b, bif s.e == 0 then c else s.e⟩
noncomputable def txR : Nat → RS → RS
  | 0, s => s
  | n + 1, s => txR n (J9 s)
noncomputable def JrH (s : RS) : Int := Jt 1 (fS 13 s)
noncomputable def Ju1 (s : RS) : Nat := bif decide (JrH s > 4) then 0 else (JrH s).toNat
noncomputable def Ju2 (s : RS) : RS := bif decide (JrH s > 4) then Y0 4 (Jb 1 (fS 13 s)) else Jb 1 (fS 13 s)
noncomputable def JrI : RS → List Int := hid fun s => hashV (txR (Ju1 s) (Ju2 s))
theorem Jnk (s : RS) : JrI s = hashV (txR (Ju1 s) (Ju2 s)) := by rw [JrI, hid_eq]
@[simp] theorem JpK (s : RS) : (JrI s).length = 32 := by rw [Jnk]; exact hashV_length _
theorem Qa {s : RS} (h : byB s.b = true) (n : Nat) : byB (Jb n s).b = true := by rw [Wb]; exact XI h n
theorem Jil {s : RS} (h : byB s.b = true) : byB (J9 s).b = true := by rw [VI]; exact XI (XI h 2) _
theorem Y1 : ∀ l : List PV, (Jq l).length = l.length
  | [] => rfl
  | p :: ps => by simp [Jq, Y1 ps]
theorem JcC {s : RS} (h : byB s.b = true) : (JQ s).size ≤ 65535 := by
  rw [Jau]
  show (Jq _).length ≤ _
  rw [Y1]
  have h1 := Wn (QI 2 s).toNat (J1 2 s)
  have h2 := W3 h (n := 2) (Nat.le_refl 2)
  omega
theorem Xk (t : ByteArray) : (Jl t).length = t.size := by simp only [Jl, List.length_map, Array.length_toList]; rfl
noncomputable def F78 : Fns := F0
theorem JrJ : Jz tau Try.prog F78 := JG
def Jnl : An := (.seq .leaf (.seq (.seq .leaf (.cond (.seq .leaf .leaf) .leaf)) (.seq .leaf .leaf)))
noncomputable def g78 (f : Nat) (r_b_z : Bool) (r_b_f : Bool) (r_b : List PV) (r_e : Int) (k : Res → Option Res) : Option Res := bif r_e == 0 then bif decide (zi r_b.length > 0) then k (Res.mk (.sc (.int .i64 9)) [.box false 186 (PV.st 186 [.ro 5 r_b_z r_b_f r_b, .sc (.int .i64 r_e)])] []) else k (Res.mk (.sc (.int .i64 r_e)) [.box false 186 (PV.st 186 [.ro 5 r_b_z r_b_f r_b, .sc (.int .i64 r_e)])] []) else k (Res.mk (.sc (.int .i64 r_e)) [.box false 186 (PV.st 186 [.ro 5 r_b_z r_b_f r_b, .sc (.int .i64 r_e)])] [])
theorem e78 (f : Nat) (r_b_z : Bool) (r_b_f : Bool) (r_b : List PV) (r_e : Int) (k : Res → Option Res) : JM tau F78 Try.f78 (Try.f78.body.get!) Jnl [.ro] 0 [.ptr 0 []] [.box false 186 (.st 186 [.ro 5 r_b_z r_b_f r_b, .sc (.int .i64 r_e)])] k = g78 f r_b_z r_b_f r_b r_e k := by kernel_rfl
theorem JzF (f : Nat) : Jg (Try.f78.body.get!) Jnl = [] := by kernel_rfl
theorem JzG (f : Nat) : ∀ q ∈ Jg (Try.f78.body.get!) Jnl, q.Ok tau Try.prog 1 := by
  rw [JzF f]; intro q hq; cases hq
theorem Ju3 : Try.prog.funcs[78]? = some Try.f78 := by kernel_rfl
theorem Ju4 : Try.f78.body = some (Try.f78.body.get!) := by kernel_rfl
theorem Ju5 : Enters Try.prog 78 := enters_of Ju3 (by kernel_rfl) Ju4
noncomputable def Jk3 : List PV → List Ent → (Res → Option Res) → Option Res
  | [.ptr 0 []], [.box false 186 (.st 186 [.ro 5 r_b_z r_b_f r_b, .sc (.int .i64 r_e)])], k => g78 0 r_b_z r_b_f r_b r_e k
  | _, _, _ => none
noncomputable def s78 : Sig := { own := [], run := Jk3 }
theorem Ju6 : Ji tau Try.prog 78 s78 := JS Jr JrJ Js Ju3 Ju4 Jnl [.ro] 1 [] Jk3 (JzG 0) fun xs es k res hr => by
  unfold Jk3 at hr
  split at hr
  · exact ⟨rfl, 0, (e78 0 _ _ _ _  _).trans hr⟩
  · cases hr





-- FN wire.check | wire.key
def QK (x m : Int) : Bool := decide (x ≥ 0) && decide (x ≤ m)
def JzH (fr to wh wn cd cu ve co ad au su er : Int) : Bool := QK fr 2 && (QK to 2 && (!(fr == to) && (QK wh 2 && (QK wn 99 && (QK cd 2 && (QK cu 7 && (QK ad 2 && (QK au 7 && (QK ve 1073741824 && (QK co 1073741824 && (QK su 1073741824 && QK er 255)))))))))))
def JzI (kd fr to wh wn cd cu ve co ad au su er : Int) : Int := bif QK (IntKind.i64.wrap (kd - 1)) 4 then (bif JzH fr to wh wn cd cu ve co ad au su er then 0 else 1) else 3
structure C13 where
  (kd fr to wh wn cd cu ve co ad au su er : Int)
noncomputable def chk : C13 → Int := hid fun c => JzI c.kd c.fr c.to c.wh c.wn c.cd c.cu c.ve c.co c.ad c.au c.su c.er
def W4 (l : List PV) (d : Int) : PV := bif QK d 2 then l.getD d.toNat .top else .ro 5 true true []
structure K3 where
  (l : List PV) (d : Int)
noncomputable def QG : K3 → List PV := hid fun c => (W4 c.l c.d).els
noncomputable def JrK : K3 → Bool := hid fun c => (W4 c.l c.d).nl
noncomputable def JrL : K3 → Bool := hid fun c => (W4 c.l c.d).fl
theorem Jax (c : K3) : QG c = (W4 c.l c.d).els := by rw [QG, hid_eq]
theorem Jnm (c : K3) : JrK c = (W4 c.l c.d).nl := by rw [JrK, hid_eq]
theorem Jnn (c : K3) : JrL c = (W4 c.l c.d).fl := by rw [JrL, hid_eq]
noncomputable def Ju7 : Fns := F0
theorem Jno : Jz tau Try.prog Ju7 := JG
def Jim : An := (.seq .leaf (.seq .leaf .leaf))
noncomputable def Ju8 (f : Nat) (k : Res → Option Res) : Option Res := k (Res.mk (.ar 118 [.sc (.int .u32 1116352408), .sc (.int .u32 1899447441), .sc (.int .u32 3049323471), .sc (.int .u32 3921009573), .sc (.int .u32 961987163), .sc (.int .u32 1508970993), .sc (.int .u32 2453635748), .sc (.int .u32 2870763221), .sc (.int .u32 3624381080), .sc (.int .u32 310598401), .sc (.int .u32 607225278), .sc (.int .u32 1426881987), .sc (.int .u32 1925078388), .sc (.int .u32 2162078206), .sc (.int .u32 2614888103), .sc (.int .u32 3248222580), .sc (.int .u32 3835390401), .sc (.int .u32 4022224774), .sc (.int .u32 264347078), .sc (.int .u32 604807628), .sc (.int .u32 770255983), .sc (.int .u32 1249150122), .sc (.int .u32 1555081692), .sc (.int .u32 1996064986), .sc (.int .u32 2554220882), .sc (.int .u32 2821834349), .sc (.int .u32 2952996808), .sc (.int .u32 3210313671), .sc (.int .u32 3336571891), .sc (.int .u32 3584528711), .sc (.int .u32 113926993), .sc (.int .u32 338241895), .sc (.int .u32 666307205), .sc (.int .u32 773529912), .sc (.int .u32 1294757372), .sc (.int .u32 1396182291), .sc (.int .u32 1695183700), .sc (.int .u32 1986661051), .sc (.int .u32 2177026350), .sc (.int .u32 2456956037), .sc (.int .u32 2730485921), .sc (.int .u32 2820302411), .sc (.int .u32 3259730800), .sc (.int .u32 3345764771), .sc (.int .u32 3516065817), .sc (.int .u32 3600352804), .sc (.int .u32 4094571909), .sc (.int .u32 275423344), .sc (.int .u32 430227734), .sc (.int .u32 506948616), .sc (.int .u32 659060556), .sc (.int .u32 883997877), .sc (.int .u32 958139571), .sc (.int .u32 1322822218), .sc (.int .u32 1537002063), .sc (.int .u32 1747873779), .sc (.int .u32 1955562222), .sc (.int .u32 2024104815), .sc (.int .u32 2227730452), .sc (.int .u32 2361852424), .sc (.int .u32 2428436474), .sc (.int .u32 2756734187), .sc (.int .u32 3204031479), .sc (.int .u32 3329325298)]) [] [])
theorem JzJ (f : Nat) (k : Res → Option Res) : JM tau Ju7 Try.f123 (Try.f123.body.get!) Jim [.ro] 0 [] [] k = Ju8 f k := by kernel_rfl
theorem Ju9 (f : Nat) : Jg (Try.f123.body.get!) Jim = [] := by kernel_rfl
theorem Jva (f : Nat) : ∀ q ∈ Jg (Try.f123.body.get!) Jim, q.Ok tau Try.prog 0 := by
  rw [Ju9 f]; intro q hq; cases hq
theorem JpL : Try.prog.funcs[123]? = some Try.f123 := by kernel_rfl
theorem JpM : Try.f123.body = some (Try.f123.body.get!) := by kernel_rfl
theorem Jvb : Enters Try.prog 123 := enters_of JpL (by kernel_rfl) JpM
noncomputable def JgR : List PV → List Ent → (Res → Option Res) → Option Res
  | [], [], k => Ju8 0  k
  | _, _, _ => none
noncomputable def Jvc : Sig := { own := [], run := JgR }
theorem Jvd : Ji tau Try.prog 123 Jvc := JS Jr Jno Js JpL JpM Jim [.ro] 0 [] JgR (Jva 0) fun xs es k res hr => by
  unfold JgR at hr
  split at hr
  · exact ⟨rfl, 0, (JzJ 0  _).trans hr⟩
  · cases hr
def N71 : Nat := 113
noncomputable def F71 : Fns := JD 123 Jvc (JD 122 JpI (JD 124 JkV F0))
theorem JgS : Jz tau Try.prog F71 := ((JG.add JkW JpF).add JrG JuX).add Jvd Jvb
noncomputable def JcD : Code := QB (Try.f71.body.get!) [1, 1, 1, 0, 1, 0, 0]
def X7 : Nm := [(2, .any), (4, .any), (5, .any), (6, .any), (7, .any), (18, .any)]
def Y2 : Nm := [(2, .any), (4, .any), (7, .any)]
def Jfc : An := (.seq .leaf (.seq (.cond .leaf .leaf) (.seq (.block none (.seq .leaf (.seq .leaf (.seq .leaf (.seq .leaf .leaf))))) .leaf)))
noncomputable def JcE : Code := QB (Try.f71.body.get!) [1, 1, 1, 1, 0, 1, 0, 0]
def X8 : Nm := [(2, .any), (4, .any), (7, .any), (100, .any)]
def Y3 : Nm := [(4, .any), (7, .any)]
def Jfd : An := (.seq .leaf (.seq (.cond .leaf .leaf) (.seq (.block none (.seq .leaf .leaf)) .leaf)))
def JrM (r0 : QZ) (r1 : QZ) : An := (.seq .leaf (.seq .leaf (.seq .leaf (.seq (.seq .leaf (.block none (.sum X7 N71 r0))) (.seq (.seq .leaf (.block none (.sum X8 N71 r1))) (.seq .leaf .leaf))))))
def VO (f : Nat) (rc : Int → List PV → List PV → List PV → List PV → List PV → Option Res) (k0 : List PV → List PV → List PV → Option Res) (v0 : Int) (v1 : List PV) (v2 : List PV) (v3 : List PV) (v4 : List PV) (v5 : List PV) : Option Res := bif decide (v0 < 64) then bif PV.isInt IntKind.u32 (Jj (PV.ar 113 v5) [4]) && true then bif PV.isInt IntKind.u32 (Jj (PV.ar 113 v5) [0]) && true then bif PV.isInt IntKind.u32 (Jj (PV.ar 113 v5) [7]) && true then bif PV.isInt IntKind.u32 (Jj (PV.ar 113 v5) [5]) && true then bif PV.isInt IntKind.u32 (Jj (PV.ar 113 v5) [6]) && true then bif decide (0 ≤ v0) && decide (v0 < zi 64) && true then bif PV.isInt IntKind.u32 (Jj (PV.ar 118 v4) [v0.toNat]) && true then bif decide (0 ≤ v0) && decide (v0 < zi 64) && true then bif PV.isInt IntKind.u32 (Jj (PV.ar 118 v3) [v0.toNat]) && true then bif PV.isInt IntKind.u32 (Jj (PV.ar 113 v5) [1]) && true then bif PV.isInt IntKind.u32 (Jj (PV.ar 113 v5) [2]) && true then bif PV.isInt IntKind.u32 (Jj (PV.ar 113 v5) [1]) && true then bif PV.isInt IntKind.u32 (Jj (PV.ar 113 v5) [2]) && true then bif PV.isInt IntKind.u32 (Jj (PV.ar 113 v5) [0]) && true then bif PV.isInt IntKind.u32 (Jj (PV.ar 113 v5) [1]) && true then bif PV.isInt IntKind.u32 (Jj (PV.ar 113 v5) [2]) && true then bif PV.isInt IntKind.u32 (Jj (PV.ar 113 v5) [3]) && true then bif PV.isInt IntKind.u32 (Jj (PV.ar 113 v5) [4]) && true then bif PV.isInt IntKind.u32 (Jj (PV.ar 113 v5) [5]) && true then bif PV.isInt IntKind.u32 (Jj (PV.ar 113 v5) [6]) && true then rc (IntKind.i64.wrap (v0 + 1)) v1 v2 v3 v4 ([.sc (.int .u32 (IntKind.u32.wrap (IntKind.u32.wrap (IntKind.u32.wrap (IntKind.u32.wrap (IntKind.u32.wrap ((Jj (PV.ar 113 v5) [7]).int + JC BinOp.xor IntKind.u32 (JC BinOp.xor IntKind.u32 (rr (Jj (PV.ar 113 v5) [4]).int 6) (rr (Jj (PV.ar 113 v5) [4]).int 11)) (rr (Jj (PV.ar 113 v5) [4]).int 25)) + JC BinOp.xor IntKind.u32 (JC BinOp.and IntKind.u32 (Jj (PV.ar 113 v5) [4]).int (Jj (PV.ar 113 v5) [5]).int) (JC BinOp.and IntKind.u32 (JC BinOp.xor IntKind.u32 (Int.ofNat (2 ^ IntKind.u32.bits - Nat.succ 0)) (Jj (PV.ar 113 v5) [4]).int) (Jj (PV.ar 113 v5) [6]).int)) + (Jj (PV.ar 118 v4) [v0.toNat]).int) + (Jj (PV.ar 118 v3) [v0.toNat]).int) + IntKind.u32.wrap (JC BinOp.xor IntKind.u32 (JC BinOp.xor IntKind.u32 (rr (Jj (PV.ar 113 v5) [0]).int 2) (rr (Jj (PV.ar 113 v5) [0]).int 13)) (rr (Jj (PV.ar 113 v5) [0]).int 22) + JC BinOp.xor IntKind.u32 (JC BinOp.xor IntKind.u32 (JC BinOp.and IntKind.u32 (Jj (PV.ar 113 v5) [0]).int (Jj (PV.ar 113 v5) [1]).int) (JC BinOp.and IntKind.u32 (Jj (PV.ar 113 v5) [0]).int (Jj (PV.ar 113 v5) [2]).int)) (JC BinOp.and IntKind.u32 (Jj (PV.ar 113 v5) [1]).int (Jj (PV.ar 113 v5) [2]).int))))), .sc (.int .u32 (Jj (PV.ar 113 v5) [0]).int), .sc (.int .u32 (Jj (PV.ar 113 v5) [1]).int), .sc (.int .u32 (Jj (PV.ar 113 v5) [2]).int), .sc (.int .u32 (IntKind.u32.wrap ((Jj (PV.ar 113 v5) [3]).int + IntKind.u32.wrap (IntKind.u32.wrap (IntKind.u32.wrap (IntKind.u32.wrap ((Jj (PV.ar 113 v5) [7]).int + JC BinOp.xor IntKind.u32 (JC BinOp.xor IntKind.u32 (rr (Jj (PV.ar 113 v5) [4]).int 6) (rr (Jj (PV.ar 113 v5) [4]).int 11)) (rr (Jj (PV.ar 113 v5) [4]).int 25)) + JC BinOp.xor IntKind.u32 (JC BinOp.and IntKind.u32 (Jj (PV.ar 113 v5) [4]).int (Jj (PV.ar 113 v5) [5]).int) (JC BinOp.and IntKind.u32 (JC BinOp.xor IntKind.u32 (Int.ofNat (2 ^ IntKind.u32.bits - Nat.succ 0)) (Jj (PV.ar 113 v5) [4]).int) (Jj (PV.ar 113 v5) [6]).int)) + (Jj (PV.ar 118 v4) [v0.toNat]).int) + (Jj (PV.ar 118 v3) [v0.toNat]).int)))), .sc (.int .u32 (Jj (PV.ar 113 v5) [4]).int), .sc (.int .u32 (Jj (PV.ar 113 v5) [5]).int), .sc (.int .u32 (Jj (PV.ar 113 v5) [6]).int)]) else none else none else none else none else none else none else none else none else none else none else none else none else none else none else none else none else none else none else none else none else k0 v1 v2 v5
def Y4 (f : Nat) (k0 : List PV → List PV → List PV → Option Res) : Nat → Int → List PV → List PV → List PV → List PV → List PV → Option Res
  | 0, _, _, _, _, _, _ => none
  | n + 1, v0, v1, v2, v3, v4, v5 => VO f (Y4 f k0 n) k0 v0 v1 v2 v3 v4 v5
theorem Jnp (f : Nat) (k : Kont) (n : Nat) (v0 : Int) (v1 : List PV) (v2 : List PV) (v3 : List PV) (v4 : List PV) (v5 : List PV) : Jo tau 0 X7 (fun s k => ev tau F71 0 0 JcD (Jfc ) s k) (n + 1) (Je X7 N71 [.ptr 1824 [], .ptr 1825 [], .ptr 1826 [], .ptr 1827 [], .ptr 1828 [], .sc (.int .i64 v0)] [(1824, .box false 113 (PV.ar 113 v1)), (1825, .box false 113 (PV.ar 113 v2)), (1826, .box false 118 (PV.ar 118 v3)), (1827, .box false 118 (PV.ar 118 v4)), (1828, .box false 113 (PV.ar 113 v5))]) (Jv tau 0 Y2 k) = VO f (fun v0 v1 v2 v3 v4 v5 => Jo tau 0 X7 (fun s k => ev tau F71 0 0 JcD (Jfc ) s k) n (Je X7 N71 [.ptr 1824 [], .ptr 1825 [], .ptr 1826 [], .ptr 1827 [], .ptr 1828 [], .sc (.int .i64 v0)] [(1824, .box false 113 (PV.ar 113 v1)), (1825, .box false 113 (PV.ar 113 v2)), (1826, .box false 118 (PV.ar 118 v3)), (1827, .box false 118 (PV.ar 118 v4)), (1828, .box false 113 (PV.ar 113 v5))]) (Jv tau 0 Y2 k)) (fun x0 x1 x2 => k (Ex.exit 0) (Je Y2 N71 [.ptr 1824 [], .ptr 1825 [], .ptr 1826 []] [(1824, .box false 113 (PV.ar 113 x0)), (1825, .box false 113 (PV.ar 113 x1)), (1826, .box false 113 (PV.ar 113 x2))])) v0 v1 v2 v3 v4 v5 := by kernel_rfl
theorem Jin (f : Nat) (k : Kont) : ∀ (n : Nat) (v0 : Int) (v1 : List PV) (v2 : List PV) (v3 : List PV) (v4 : List PV) (v5 : List PV), Jo tau 0 X7 (fun s k => ev tau F71 0 0 JcD (Jfc ) s k) n (Je X7 N71 [.ptr 1824 [], .ptr 1825 [], .ptr 1826 [], .ptr 1827 [], .ptr 1828 [], .sc (.int .i64 v0)] [(1824, .box false 113 (PV.ar 113 v1)), (1825, .box false 113 (PV.ar 113 v2)), (1826, .box false 118 (PV.ar 118 v3)), (1827, .box false 118 (PV.ar 118 v4)), (1828, .box false 113 (PV.ar 113 v5))]) (Jv tau 0 Y2 k) = Y4 f (fun x0 x1 x2 => k (Ex.exit 0) (Je Y2 N71 [.ptr 1824 [], .ptr 1825 [], .ptr 1826 []] [(1824, .box false 113 (PV.ar 113 x0)), (1825, .box false 113 (PV.ar 113 x1)), (1826, .box false 113 (PV.ar 113 x2))])) n v0 v1 v2 v3 v4 v5 | 0, _, _, _, _, _, _ => rfl | n + 1, v0, v1, v2, v3, v4, v5 => (Jnp f k n v0 v1 v2 v3 v4 v5).trans (congrArg (fun r => VO f r (fun x0 x1 x2 => k (Ex.exit 0) (Je Y2 N71 [.ptr 1824 [], .ptr 1825 [], .ptr 1826 []] [(1824, .box false 113 (PV.ar 113 x0)), (1825, .box false 113 (PV.ar 113 x1)), (1826, .box false 113 (PV.ar 113 x2))])) v0 v1 v2 v3 v4 v5) (by funext v0 v1 v2 v3 v4 v5; exact Jin f k n v0 v1 v2 v3 v4 v5))
def JcF (f : Nat) : List PV → List (Nat × Ent) → Kont → Option Res
  | [.ptr 1824 [], .ptr 1825 [], .ptr 1826 [], .ptr 1827 [], .ptr 1828 [],
  PV.sc
    (Value.int IntKind.i64
      v0)], [(1824, .box false 113 (PV.ar 113 v1)), (1825, .box false 113 (PV.ar 113 v2)), (1826, .box false 118 (PV.ar 118 v3)), (1827, .box false 118 (PV.ar 118 v4)),
  (1828,
    Ent.box false 113
      (PV.ar 113
        v5))], k => Y4 f (fun x0 x1 x2 => k (Ex.exit
  0) (Je Y2 N71 [.ptr 1824 [], .ptr 1825 [],
  PV.ptr 1826 []] [(1824, .box false 113 (PV.ar 113 x0)), (1825, .box false 113 (PV.ar 113 x1)), (1826, .box false 113 (PV.ar 113 x2))])) f v0 v1 v2 v3 v4 v5
  | _, _, _ => none
theorem JrN (f : Nat) : Jg JcD Jfc = [] := by kernel_rfl
theorem Jve (f : Nat) : (Item.l JcD X7 N71 (JcF f)).Ok tau Try.prog 0 := JI Jr JgS Js (x := Jfc) (nm2 := Y2) (Jp _ _ (by rw [JrN f]; intro q hq; cases hq)) fun vs hp k res hr => by
  unfold JcF at hr
  split at hr
  · exact ⟨f, 0, (Jin f _ f _ _ _ _ _ _ ).trans hr⟩
  · cases hr
def VP (f : Nat) (rc : Int → List PV → List PV → List PV → Option Res) (k0 : List PV → List PV → Option Res) (v0 : Int) (v1 : List PV) (v2 : List PV) (v3 : List PV) : Option Res := bif decide (v0 < 8) then bif decide (0 ≤ v0) && decide (v0 < zi 8) && true then bif PV.isInt IntKind.u32 (Jj (PV.ar 113 v3) [v0.toNat]) && true then bif decide (0 ≤ v0) && decide (v0 < zi 8) && true then bif PV.isInt IntKind.u32 (Jj (PV.ar 113 v1) [v0.toNat]) && true then bif decide (0 ≤ v0) && decide (v0 < zi 8) && true then rc (IntKind.i64.wrap (v0 + 1)) v1 v2 (v3.set v0.toNat (.sc (.int .u32 (IntKind.u32.wrap ((Jj (PV.ar 113 v3) [v0.toNat]).int + (Jj (PV.ar 113 v1) [v0.toNat]).int))))) else none else none else none else none else none else k0 v2 v3
def Y5 (f : Nat) (k0 : List PV → List PV → Option Res) : Nat → Int → List PV → List PV → List PV → Option Res
  | 0, _, _, _, _ => none
  | n + 1, v0, v1, v2, v3 => VP f (Y5 f k0 n) k0 v0 v1 v2 v3
theorem Jnq (f : Nat) (k : Kont) (n : Nat) (v0 : Int) (v1 : List PV) (v2 : List PV) (v3 : List PV) : Jo tau 0 X8 (fun s k => ev tau F71 0 0 JcE (Jfd ) s k) (n + 1) (Je X8 N71 [.ptr 1824 [], .ptr 1825 [], .ptr 1826 [], .sc (.int .i64 v0)] [(1824, .box false 113 (PV.ar 113 v1)), (1825, .box false 113 (PV.ar 113 v2)), (1826, .box false 113 (PV.ar 113 v3))]) (Jv tau 0 Y3 k) = VP f (fun v0 v1 v2 v3 => Jo tau 0 X8 (fun s k => ev tau F71 0 0 JcE (Jfd ) s k) n (Je X8 N71 [.ptr 1824 [], .ptr 1825 [], .ptr 1826 [], .sc (.int .i64 v0)] [(1824, .box false 113 (PV.ar 113 v1)), (1825, .box false 113 (PV.ar 113 v2)), (1826, .box false 113 (PV.ar 113 v3))]) (Jv tau 0 Y3 k)) (fun x0 x1 => k (Ex.exit 2) (Je Y3 N71 [.ptr 1824 [], .ptr 1825 []] [(1824, .box false 113 (PV.ar 113 x0)), (1825, .box false 113 (PV.ar 113 x1))])) v0 v1 v2 v3 := by kernel_rfl
theorem Jio (f : Nat) (k : Kont) : ∀ (n : Nat) (v0 : Int) (v1 : List PV) (v2 : List PV) (v3 : List PV), Jo tau 0 X8 (fun s k => ev tau F71 0 0 JcE (Jfd ) s k) n (Je X8 N71 [.ptr 1824 [], .ptr 1825 [], .ptr 1826 [], .sc (.int .i64 v0)] [(1824, .box false 113 (PV.ar 113 v1)), (1825, .box false 113 (PV.ar 113 v2)), (1826, .box false 113 (PV.ar 113 v3))]) (Jv tau 0 Y3 k) = Y5 f (fun x0 x1 => k (Ex.exit 2) (Je Y3 N71 [.ptr 1824 [], .ptr 1825 []] [(1824, .box false 113 (PV.ar 113 x0)), (1825, .box false 113 (PV.ar 113 x1))])) n v0 v1 v2 v3 | 0, _, _, _, _ => rfl | n + 1, v0, v1, v2, v3 => (Jnq f k n v0 v1 v2 v3).trans (congrArg (fun r => VP f r (fun x0 x1 => k (Ex.exit 2) (Je Y3 N71 [.ptr 1824 [], .ptr 1825 []] [(1824, .box false 113 (PV.ar 113 x0)), (1825, .box false 113 (PV.ar 113 x1))])) v0 v1 v2 v3) (by funext v0 v1 v2 v3; exact Jio f k n v0 v1 v2 v3))
def JcG (f : Nat) : List PV → List (Nat × Ent) → Kont → Option Res
  | [.ptr 1824 [], .ptr 1825 [], .ptr 1826 [],
  PV.sc
    (Value.int IntKind.i64
      v0)], [(1824, .box false 113 (PV.ar 113 v1)), (1825, .box false 113 (PV.ar 113 v2)),
  (1826,
    Ent.box false 113
      (PV.ar 113
        v3))], k => Y5 f (fun x0 x1 => k (Ex.exit
  2) (Je Y3 N71 [.ptr 1824 [], .ptr 1825 []] [(1824, .box false 113 (PV.ar 113 x0)), (1825, .box false 113 (PV.ar 113 x1))])) f v0 v1 v2 v3
  | _, _, _ => none
theorem JrO (f : Nat) : Jg JcE Jfd = [] := by kernel_rfl
theorem Jvf (f : Nat) : (Item.l JcE X8 N71 (JcG f)).Ok tau Try.prog 0 := JI Jr JgS Js (x := Jfd) (nm2 := Y3) (Jp _ _ (by rw [JrO f]; intro q hq; cases hq)) fun vs hp k res hr => by
  unfold JcG at hr
  split at hr
  · exact ⟨f, 0, (Jio f _ f _ _ _ _ ).trans hr⟩
  · cases hr
def g71 (f : Nat) (s : List PV) (nl : Bool) (fl : Bool) (b : List PV) (k : Res → Option Res) : Option Res := bif Jh IntKind.u8 b && decide (b.length = 64) then Y4 f (fun x0_0 x1_0 x2_0 => Y5 f (fun x0_1 x1_1 => k (Res.mk (.ar 113 x1_1) [] [])) f (0) x0_0 x1_0 x2_0) f (0) s ([.sc (.int .u32 0), .sc (.int .u32 0), .sc (.int .u32 0), .sc (.int .u32 0), .sc (.int .u32 0), .sc (.int .u32 0), .sc (.int .u32 0), .sc (.int .u32 0)]) (pu IntKind.u32 (Qh (Jd b))) ([.sc (.int .u32 1116352408), .sc (.int .u32 1899447441), .sc (.int .u32 3049323471), .sc (.int .u32 3921009573), .sc (.int .u32 961987163), .sc (.int .u32 1508970993), .sc (.int .u32 2453635748), .sc (.int .u32 2870763221), .sc (.int .u32 3624381080), .sc (.int .u32 310598401), .sc (.int .u32 607225278), .sc (.int .u32 1426881987), .sc (.int .u32 1925078388), .sc (.int .u32 2162078206), .sc (.int .u32 2614888103), .sc (.int .u32 3248222580), .sc (.int .u32 3835390401), .sc (.int .u32 4022224774), .sc (.int .u32 264347078), .sc (.int .u32 604807628), .sc (.int .u32 770255983), .sc (.int .u32 1249150122), .sc (.int .u32 1555081692), .sc (.int .u32 1996064986), .sc (.int .u32 2554220882), .sc (.int .u32 2821834349), .sc (.int .u32 2952996808), .sc (.int .u32 3210313671), .sc (.int .u32 3336571891), .sc (.int .u32 3584528711), .sc (.int .u32 113926993), .sc (.int .u32 338241895), .sc (.int .u32 666307205), .sc (.int .u32 773529912), .sc (.int .u32 1294757372), .sc (.int .u32 1396182291), .sc (.int .u32 1695183700), .sc (.int .u32 1986661051), .sc (.int .u32 2177026350), .sc (.int .u32 2456956037), .sc (.int .u32 2730485921), .sc (.int .u32 2820302411), .sc (.int .u32 3259730800), .sc (.int .u32 3345764771), .sc (.int .u32 3516065817), .sc (.int .u32 3600352804), .sc (.int .u32 4094571909), .sc (.int .u32 275423344), .sc (.int .u32 430227734), .sc (.int .u32 506948616), .sc (.int .u32 659060556), .sc (.int .u32 883997877), .sc (.int .u32 958139571), .sc (.int .u32 1322822218), .sc (.int .u32 1537002063), .sc (.int .u32 1747873779), .sc (.int .u32 1955562222), .sc (.int .u32 2024104815), .sc (.int .u32 2227730452), .sc (.int .u32 2361852424), .sc (.int .u32 2428436474), .sc (.int .u32 2756734187), .sc (.int .u32 3204031479), .sc (.int .u32 3329325298)]) s else none
theorem e71 (f : Nat) (s : List PV) (nl : Bool) (fl : Bool) (b : List PV) (k : Res → Option Res) : JM tau F71 Try.f71 (Try.f71.body.get!) (JrM (JcF f) (JcG f)) [] 0 [.ar 113 s, .ro 5 nl fl b] [] k = g71 f s nl fl b k := by kernel_rfl
theorem JzK (f : Nat) : Jg (Try.f71.body.get!) (JrM (JcF f) (JcG f)) = [.l JcD X7 N71 (JcF f), .l JcE X8 N71 (JcG f)] := by kernel_rfl
theorem JzL (f : Nat) : ∀ q ∈ Jg (Try.f71.body.get!) (JrM (JcF f) (JcG f)), q.Ok tau Try.prog 0 := by
  rw [JzK f]; simp only [List.forall_mem_cons, List.not_mem_nil, false_implies, implies_true, and_true]; exact ⟨Jve f, Jvf f⟩
theorem Jvg : Try.prog.funcs[71]? = some Try.f71 := by kernel_rfl
theorem Jvh : Try.f71.body = some (Try.f71.body.get!) := by kernel_rfl
theorem JzM : Enters Try.prog 71 := enters_of Jvg (by kernel_rfl) Jvh
-- FN (sha.state).add
theorem Y6 {R : List Int} (h : R.length = 8) (j : Nat) (hj : j < 8) : (pu .u32 R).getD j .top = .sc (.int .u32 (R.getD j 0)) := YR (by omega)
theorem JpN (W s : List Int) (hW : W.length = 64) (hs : s.length = 8) (f : Nat) (k0 : List PV → List PV → List PV → Option Res) (a b : List PV) : ∀ (d i n : Nat), i + d = 64 → d < n →
    Y4 f k0 n (i : Int) a b (pu .u32 W) (pu .u32 kks) (pu .u32 (YZ W s i)) = k0 a b (pu .u32 (YZ W s 64))
  | 0, i, n + 1, h, hn => by
      obtain rfl : i = 64 := by omega
      simp only [Y4, VO]
      exact JK (by decide)
  | d + 1, i, n + 1, h, hn => by
      have hl := Xj W s hs i
      have h1 : IntKind.i64.wrap ((i : Int) + 1) = ((i + 1 : Nat) : Int) := by rw [wrap_i64 (by omega) (by omega)]; omega
      have hk : (pu .u32 kks).getD i .top = .sc (.int .u32 (kks.getD i 0)) := YR (by show i < 64; omega)
      have hw : (pu .u32 W).getD i .top = .sc (.int .u32 (W.getD i 0)) := YR (by omega)
      have c1 : decide ((i : Int) < 64) = true := by simp; omega
      have c2 : decide (0 ≤ (i : Int)) = true := by simp
      have c3 : decide ((i : Int) < zi 64) = true := by simp; omega
      simp only [Y4, VO, WE, Int.toNat_natCast, h1, hk, hw, c1, c2, c3, Y6 hl 0 (by omega), Y6 hl 1 (by omega), Y6 hl 2 (by omega), Y6 hl 3 (by omega), Y6 hl 4 (by omega), Y6 hl 5 (by omega), Y6 hl 6 (by omega), Y6 hl 7 (by omega), PV.isInt, PV.int, decide_true, Bool.and_true, cond_true]
      exact JpN W s hW hs f k0 a b d (i + 1) n (by omega) (by omega)
theorem JpO (t s : List Int) (ht : t.length = 8) (hs : s.length = 8) (f : Nat) (k0 : List PV → List PV → Option Res) (a : List PV) : ∀ (d i n : Nat), i + d = 8 → d < n →
    Y5 f k0 n (i : Int) (pu .u32 s) a (pu .u32 (Qz (fun j => ww (t.getD j 0 + s.getD j 0)) t i)) = k0 a (pu .u32 (Qz (fun j => ww (t.getD j 0 + s.getD j 0)) t 8))
  | 0, i, n + 1, h, hn => by
      obtain rfl : i = 8 := by omega
      simp only [Y5, VP]
      exact JK (by decide)
  | d + 1, i, n + 1, h, hn => by
      have hl : (Qz (fun j => ww (t.getD j 0 + s.getD j 0)) t i).length = 8 := by rw [X6 _ _ _ (by omega), ht]
      have h1 : IntKind.i64.wrap ((i : Int) + 1) = ((i + 1 : Nat) : Int) := by rw [wrap_i64 (by omega) (by omega)]; omega
      have c1 : decide ((i : Int) < 8) = true := by simp; omega
      have c2 : decide (0 ≤ (i : Int)) = true := by simp
      have c3 : decide ((i : Int) < zi 8) = true := by simp; omega
      have g1 : ((i : Int)).toNat = i := by omega
      simp only [Y5, VP, WE, g1, h1, c1, c2, c3, Y6 hl i (by omega), Y6 hs i (by omega), GB _ t i (by omega), PV.isInt, PV.int, decide_true, Bool.and_true, cond_true, Wm]
      have := JpO t s ht hs f k0 a d (i + 1) n (by omega) (by omega)
      rw [← Qs _ t i (by omega)] at this
      exact this
theorem JrP (s bs : List Int) (hs : s.length = 8) (hb : bs.length = 64) (nl fl : Bool) (k : Res → Option Res) : g71 100 (pu .u32 s) nl fl (pu .u8 bs) k = k ⟨.ar 113 (pu .u32 (Jfa s bs)), [], []⟩ := by
  have hW : (Qh bs).length = 64 := JW bs 48
  have hc : (Jh .u8 (pu .u8 bs) && decide ((pu .u8 bs).length = 64)) = true := by simp [hb]
  refine (Jc hc).trans ?_
  rw [Wa]
  have h0 : ∀ k0 a b, Y4 100 k0 100 0 a b (pu .u32 (Qh bs)) (pu .u32 kks) (pu .u32 s) = k0 a b (pu .u32 (YZ (Qh bs) s 64)) := fun k0 a b => JpN (Qh bs) s hW hs 100 k0 a b 64 0 100 (by omega) (by omega)
  have ht := Xj (Qh bs) s hs 64
  have h1 : ∀ k0 a, Y5 100 k0 100 0 (pu .u32 s) a (pu .u32 (YZ (Qh bs) s 64)) = k0 a (pu .u32 (Jfa s bs)) := by
    intro k0 a
    have := JpO (YZ (Qh bs) s 64) s ht hs 100 k0 a 8 0 100 (by omega) (by omega)
    rw [QF] at this
    refine this.trans ?_
    have h2 := Q0 (fun j => ww ((YZ (Qh bs) s 64).getD j 0 + s.getD j 0)) (YZ (Qh bs) s 64)
    rw [ht] at h2; rw [h2]; rfl
  exact (h0 _ _ _).trans (h1 _ _)
def JgT : List PV → List Ent → (Res → Option Res) → Option Res
  | [.ar 113 s, .ro 5 nl fl b], [], k => bif (Jh .u32 s && decide (s.length = 8)) && (Jh .u8 b && decide (b.length = 64)) then k ⟨.ar 113 (pu .u32 (Jfa (Jd s) (Jd b))), [], []⟩ else none
  | _, _, _ => none
def Jvi : Sig := { own := [], run := JgT }
theorem Jvj : Ji tau Try.prog 71 Jvi := JS Jr JgS Js Jvg Jvh _ [] 0 [] JgT (JzL 100) fun xs es k res hr => by
  unfold JgT at hr
  split at hr
  · obtain ⟨hc, hr⟩ := JL hr
    simp only [Bool.and_eq_true, decide_eq_true_eq] at hc
    refine ⟨rfl, 0, (e71 100 _ _ _ _ _).trans ?_⟩
    rw [Qb hc.2.1, Qb hc.1.1, JrP _ _ (by simpa using hc.1.2) (by simpa using hc.2.2)]
    exact hr
  · cases hr
noncomputable def Jvk : Fns := F0
theorem Jnr : Jz tau Try.prog Jvk := JG
def Jip : An := (.seq .leaf (.seq (.seq .leaf (.cond .leaf .leaf)) (.seq (.seq .leaf (.seq .leaf (.cond .leaf .leaf))) (.seq .leaf .leaf))))
noncomputable def Jvl (f : Nat) (n : Int) (k : Res → Option Res) : Option Res := bif decide (n < 0) then none else bif decide (IntKind.i64.wrap (n - IntKind.i64.wrap (zi 0 - zi 0)) > 0) then bif decide (0 ≤ IntKind.i64.wrap (n - IntKind.i64.wrap (zi 0 - zi 0))) && Jn (IntKind.i64.wrap (n - IntKind.i64.wrap (zi 0 - zi 0))).toNat 1 && true then k (Res.mk (.ow 5 16 [] 0 0 none) [] [.vec false 5 (IntKind.i64.wrap (n - IntKind.i64.wrap (zi 0 - zi 0)) == 0) (List.replicate (IntKind.i64.wrap (n - IntKind.i64.wrap (zi 0 - zi 0))).toNat (.sc (.int .u8 0)))]) else none else k (Res.mk (.ro 5 true true []) [] [])
theorem JzN (f : Nat) (n : Int) (k : Res → Option Res) : JM tau Jvk Try.f121 (Try.f121.body.get!) Jip [] 0 [.ro 5 true true [], .sc (.int .i64 n)] [] k = Jvl f n k := by kernel_rfl
theorem Jvm (f : Nat) : Jg (Try.f121.body.get!) Jip = [] := by kernel_rfl
theorem Jvn (f : Nat) : ∀ q ∈ Jg (Try.f121.body.get!) Jip, q.Ok tau Try.prog 0 := by
  rw [Jvm f]; intro q hq; cases hq
theorem JpP : Try.prog.funcs[121]? = some Try.f121 := by kernel_rfl
theorem JpQ : Try.f121.body = some (Try.f121.body.get!) := by kernel_rfl
theorem Jvo : Enters Try.prog 121 := enters_of JpP (by kernel_rfl) JpQ
noncomputable def JgU : List PV → List Ent → (Res → Option Res) → Option Res
  | [.ro 5 true true [], .sc (.int .i64 n)], [], k => Jvl 0 n k
  | _, _, _ => none
noncomputable def Jvp : Sig := { own := [], run := JgU }
theorem Jvq : Ji tau Try.prog 121 Jvp := JS Jr Jnr Js JpP JpQ Jip [] 0 [] JgU (Jvn 0) fun xs es k res hr => by
  unfold JgU at hr
  split at hr
  · exact ⟨rfl, 0, (JzN 0 _  _).trans hr⟩
  · cases hr
def N70 : Nat := 36
noncomputable def F70 : Fns := JD 121 Jvp (F0)
theorem JgV : Jz tau Try.prog F70 := (JG).add Jvq Jvo
noncomputable def JcH : Code := QB (Try.f70.body.get!) [1, 1, 0, 1, 0, 0]
def X9 : Nm := [(0, .any), (3, .any), (9, .any), (10, .any), (11, .any)]
def Y7 : Nm := [(0, .any), (3, .any)]
def Jfe : An := (.seq .leaf (.seq (.cond .leaf .leaf) (.seq (.block none (.seq .leaf (.seq .leaf (.seq .leaf (.cond .leaf .leaf))))) .leaf)))
noncomputable def JcI : Code := QB (Try.f70.body.get!) [1, 1, 1, 1, 0, 1, 0, 0]
def Ya : Nm := [(6, .own), (25, .any), (26, .any), (27, .any)]
def Y8 : Nm := [(6, .any)]
def Jff : An := (.seq .leaf (.seq (.cond .leaf .leaf) (.seq (.block none (.seq .leaf .leaf)) .leaf)))
def Jns (r0 : QZ) (r1 : QZ) : An := (.seq .leaf (.seq .leaf (.seq (.seq .leaf (.block none (.sum X9 N70 r0))) (.seq .leaf (.seq (.seq .leaf (.block none (.sum Ya N70 r1))) (.seq .leaf .leaf))))))
noncomputable def VQ (f : Nat) (rc : Bool → Bool → List PV → Int → Bool → Bool → List PV → Int → Int → Option Res) (k0 : Bool → Bool → List PV → Int → Option Res) (v0 : Bool) (v1 : Bool) (v2 : List PV) (v3 : Int) (v4 : Bool) (v5 : Bool) (v6 : List PV) (v7 : Int) (v8 : Int) : Option Res := bif decide (v8 < v7) then bif decide (0 ≤ v8) && decide (v8 < zi v6.length) && PV.isRo 5 (v6.getD v8.toNat PV.top) && true then bif decide (IntKind.i64.wrap (v3 + zi (v6.getD v8.toNat PV.top).els.length) < 0) then none else rc v0 v1 v2 (IntKind.i64.wrap (v3 + zi (v6.getD v8.toNat PV.top).els.length)) v4 v5 v6 v7 (IntKind.i64.wrap (v8 + 1)) else none else k0 v0 v1 v2 v3
noncomputable def Z8 (f : Nat) (k0 : Bool → Bool → List PV → Int → Option Res) : Nat → Bool → Bool → List PV → Int → Bool → Bool → List PV → Int → Int → Option Res
  | 0, _, _, _, _, _, _, _, _, _ => none
  | n + 1, v0, v1, v2, v3, v4, v5, v6, v7, v8 => VQ f (Z8 f k0 n) k0 v0 v1 v2 v3 v4 v5 v6 v7 v8
theorem Jnt (f : Nat) (k : Kont) (n : Nat) (v0 : Bool) (v1 : Bool) (v2 : List PV) (v3 : Int) (v4 : Bool) (v5 : Bool) (v6 : List PV) (v7 : Int) (v8 : Int) : Jo tau 0 X9 (fun s k => ev tau F70 0 0 JcH (Jfe ) s k) (n + 1) (Je X9 N70 [.ro 29 v0 v1 v2, .sc (.int .i64 v3), .ro 29 v4 v5 v6, .sc (.int .i64 v7), .sc (.int .i64 v8)] []) (Jv tau 0 Y7 k) = VQ f (fun v0 v1 v2 v3 v4 v5 v6 v7 v8 => Jo tau 0 X9 (fun s k => ev tau F70 0 0 JcH (Jfe ) s k) n (Je X9 N70 [.ro 29 v0 v1 v2, .sc (.int .i64 v3), .ro 29 v4 v5 v6, .sc (.int .i64 v7), .sc (.int .i64 v8)] []) (Jv tau 0 Y7 k)) (fun x0 x1 x2 x3 => k (Ex.exit 0) (Je Y7 N70 [.ro 29 x0 x1 x2, .sc (.int .i64 x3)] [])) v0 v1 v2 v3 v4 v5 v6 v7 v8 := by kernel_rfl
theorem Jiq (f : Nat) (k : Kont) : ∀ (n : Nat) (v0 : Bool) (v1 : Bool) (v2 : List PV) (v3 : Int) (v4 : Bool) (v5 : Bool) (v6 : List PV) (v7 : Int) (v8 : Int), Jo tau 0 X9 (fun s k => ev tau F70 0 0 JcH (Jfe ) s k) n (Je X9 N70 [.ro 29 v0 v1 v2, .sc (.int .i64 v3), .ro 29 v4 v5 v6, .sc (.int .i64 v7), .sc (.int .i64 v8)] []) (Jv tau 0 Y7 k) = Z8 f (fun x0 x1 x2 x3 => k (Ex.exit 0) (Je Y7 N70 [.ro 29 x0 x1 x2, .sc (.int .i64 x3)] [])) n v0 v1 v2 v3 v4 v5 v6 v7 v8 | 0, _, _, _, _, _, _, _, _, _ => rfl | n + 1, v0, v1, v2, v3, v4, v5, v6, v7, v8 => (Jnt f k n v0 v1 v2 v3 v4 v5 v6 v7 v8).trans (congrArg (fun r => VQ f r (fun x0 x1 x2 x3 => k (Ex.exit 0) (Je Y7 N70 [.ro 29 x0 x1 x2, .sc (.int .i64 x3)] [])) v0 v1 v2 v3 v4 v5 v6 v7 v8) (by funext v0 v1 v2 v3 v4 v5 v6 v7 v8; exact Jiq f k n v0 v1 v2 v3 v4 v5 v6 v7 v8))
noncomputable def Jbj (f : Nat) : List PV → List (Nat × Ent) → Kont → Option Res
  | [.ro 29 v0 v1 v2, .sc (.int .i64 v3), .ro 29 v4 v5 v6, .sc (.int .i64 v7),
  .sc (.int .i64 v8)], [], k => Z8 f (fun x0 x1 x2 x3 => k (Ex.exit 0) (Je Y7 N70 [.ro 29 x0 x1 x2, .sc (.int .i64 x3)] [])) f v0 v1 v2 v3 v4 v5 v6 v7 v8
  | _, _, _ => none
theorem JrQ (f : Nat) : Jg JcH Jfe = [] := by kernel_rfl
theorem Jvr (f : Nat) : (Item.l JcH X9 N70 (Jbj f)).Ok tau Try.prog 0 := JI Jr JgV Js (x := Jfe) (nm2 := Y7) (Jp _ _ (by rw [JrQ f]; intro q hq; cases hq)) fun vs hp k res hr => by
  unfold Jbj at hr
  split at hr
  · exact ⟨f, 0, (Jiq f _ f _ _ _ _ _ _ _ _ _ ).trans hr⟩
  · cases hr
noncomputable def VR (f : Nat) (rc : Nat → Bool → Bool → List PV → Int → Int → Bool → List PV → Option Res) (k0 : Nat → Bool → List PV → Option Res) (v0 : Nat) (v1 : Bool) (v2 : Bool) (v3 : List PV) (v4 : Int) (v5 : Int) (v6 : Bool) (v7 : List PV) : Option Res := bif decide (v5 < v4) then bif decide (0 ≤ v5) && decide (v5 < zi v3.length) && PV.isRo 5 (v3.getD v5.toNat PV.top) && true then bif Jn (v0 + (v3.getD v5.toNat PV.top).els.length) 1 && true then rc (v0 + (v3.getD v5.toNat PV.top).els.length) v1 v2 v3 v4 (IntKind.i64.wrap (v5 + 1)) (v6 && (v3.getD v5.toNat PV.top).els.isEmpty) (List.take v0 v7 ++ (v3.getD v5.toNat PV.top).els) else none else none else k0 v0 v6 v7
noncomputable def Xw (f : Nat) (k0 : Nat → Bool → List PV → Option Res) : Nat → Nat → Bool → Bool → List PV → Int → Int → Bool → List PV → Option Res
  | 0, _, _, _, _, _, _, _, _ => none
  | n + 1, v0, v1, v2, v3, v4, v5, v6, v7 => VR f (Xw f k0 n) k0 v0 v1 v2 v3 v4 v5 v6 v7
theorem Jnu (f : Nat) (k : Kont) (n : Nat) (v0 : Nat) (v1 : Bool) (v2 : Bool) (v3 : List PV) (v4 : Int) (v5 : Int) (v6 : Bool) (v7 : List PV) : Jo tau 0 Ya (fun s k => ev tau F70 0 0 JcI (Jff ) s k) (n + 1) (Je Ya N70 [.ow 5 592 [] 0 v0 none, .ro 29 v1 v2 v3, .sc (.int .i64 v4), .sc (.int .i64 v5)] [(592, .vec false 5 v6 v7)]) (Jv tau 0 Y8 k) = VR f (fun v0 v1 v2 v3 v4 v5 v6 v7 => Jo tau 0 Ya (fun s k => ev tau F70 0 0 JcI (Jff ) s k) n (Je Ya N70 [.ow 5 592 [] 0 v0 none, .ro 29 v1 v2 v3, .sc (.int .i64 v4), .sc (.int .i64 v5)] [(592, .vec false 5 v6 v7)]) (Jv tau 0 Y8 k)) (fun x0 x1 x2 => k (Ex.exit 2) (Je Y8 N70 [.ow 5 592 [] 0 x0 none] [(592, .vec false 5 x1 x2)])) v0 v1 v2 v3 v4 v5 v6 v7 := by kernel_rfl
theorem Jir (f : Nat) (k : Kont) : ∀ (n : Nat) (v0 : Nat) (v1 : Bool) (v2 : Bool) (v3 : List PV) (v4 : Int) (v5 : Int) (v6 : Bool) (v7 : List PV), Jo tau 0 Ya (fun s k => ev tau F70 0 0 JcI (Jff ) s k) n (Je Ya N70 [.ow 5 592 [] 0 v0 none, .ro 29 v1 v2 v3, .sc (.int .i64 v4), .sc (.int .i64 v5)] [(592, .vec false 5 v6 v7)]) (Jv tau 0 Y8 k) = Xw f (fun x0 x1 x2 => k (Ex.exit 2) (Je Y8 N70 [.ow 5 592 [] 0 x0 none] [(592, .vec false 5 x1 x2)])) n v0 v1 v2 v3 v4 v5 v6 v7 | 0, _, _, _, _, _, _, _, _ => rfl | n + 1, v0, v1, v2, v3, v4, v5, v6, v7 => (Jnu f k n v0 v1 v2 v3 v4 v5 v6 v7).trans (congrArg (fun r => VR f r (fun x0 x1 x2 => k (Ex.exit 2) (Je Y8 N70 [.ow 5 592 [] 0 x0 none] [(592, .vec false 5 x1 x2)])) v0 v1 v2 v3 v4 v5 v6 v7) (by funext v0 v1 v2 v3 v4 v5 v6 v7; exact Jir f k n v0 v1 v2 v3 v4 v5 v6 v7))
noncomputable def Jbk (f : Nat) : List PV → List (Nat × Ent) → Kont → Option Res
  | [.ow 5 592 [] 0 v0 none, .ro 29 v1 v2 v3, .sc (.int .i64 v4),
  PV.sc
    (Value.int IntKind.i64
      v5)], [(592, .vec false 5 v6 v7)], k => Xw f (fun x0 x1 x2 => k (Ex.exit 2) (Je Y8 N70 [.ow 5 592 [] 0 x0 none] [(592, .vec false 5 x1 x2)])) f v0 v1 v2 v3 v4 v5 v6 v7
  | _, _, _ => none
theorem JrR (f : Nat) : Jg JcI Jff = [] := by kernel_rfl
theorem Jvs (f : Nat) : (Item.l JcI Ya N70 (Jbk f)).Ok tau Try.prog 0 := JI Jr JgV Js (x := Jff) (nm2 := Y8) (Jp _ _ (by rw [JrR f]; intro q hq; cases hq)) fun vs hp k res hr => by
  unfold Jbk at hr
  split at hr
  · exact ⟨f, 0, (Jir f _ f _ _ _ _ _ _ _ _ ).trans hr⟩
  · cases hr
noncomputable def g70 (f : Nat) (slices_z : Bool) (slices_f : Bool) (slices : List PV) (k : Res → Option Res) : Option Res := Z8 f (fun x0_0 x1_0 x2_0 x3_0 => bif decide (x3_0 < 0) then none else bif decide (IntKind.i64.wrap (x3_0 - IntKind.i64.wrap (zi 0 - zi 0)) > 0) then bif decide (0 ≤ IntKind.i64.wrap (x3_0 - IntKind.i64.wrap (zi 0 - zi 0))) && Jn (IntKind.i64.wrap (x3_0 - IntKind.i64.wrap (zi 0 - zi 0))).toNat 1 && true then Xw f (fun x0_1 x1_1 x2_1 => k (Res.mk (.ow 5 16 [] 0 x0_1 none) [] [.vec false 5 x1_1 x2_1])) f (0) x0_0 x1_0 x2_0 (zi x2_0.length) (0) (IntKind.i64.wrap (x3_0 - IntKind.i64.wrap (zi 0 - zi 0)) == 0) (List.replicate (IntKind.i64.wrap (x3_0 - IntKind.i64.wrap (zi 0 - zi 0))).toNat (.sc (.int .u8 0))) else none else Xw f (fun x0_2 x1_2 x2_2 => k (Res.mk (.ow 5 16 [] 0 x0_2 none) [] [.vec false 5 x1_2 x2_2])) f (0) x0_0 x1_0 x2_0 (zi x2_0.length) (0) true ([])) f slices_z slices_f slices (0) slices_z slices_f slices (zi slices.length) (0)
theorem e70 (f : Nat) (slices_z : Bool) (slices_f : Bool) (slices : List PV) (k : Res → Option Res) : JM tau F70 Try.f70 (Try.f70.body.get!) (Jns (Jbj f) (Jbk f)) [] 0 [.ro 29 slices_z slices_f slices] [] k = g70 f slices_z slices_f slices k := by kernel_rfl
theorem JzO (f : Nat) : Jg (Try.f70.body.get!) (Jns (Jbj f) (Jbk f)) = [.l JcH X9 N70 (Jbj f), .l JcI Ya N70 (Jbk f)] := by kernel_rfl
theorem JzP (f : Nat) : ∀ q ∈ Jg (Try.f70.body.get!) (Jns (Jbj f) (Jbk f)), q.Ok tau Try.prog 0 := by
  rw [JzO f]; simp only [List.forall_mem_cons, List.not_mem_nil, false_implies, implies_true, and_true]; exact ⟨Jvr f, Jvs f⟩
theorem Jvt : Try.prog.funcs[70]? = some Try.f70 := by kernel_rfl
theorem Jvu : Try.f70.body = some (Try.f70.body.get!) := by kernel_rfl
theorem JrS : Enters Try.prog 70 := enters_of Jvt (by kernel_rfl) Jvu
-- FN slices.Concat[[]byte,byte]
def Jm (l : List PV) : List PV := (l.map PV.els).flatten
@[simp] theorem Jk4 : Jm [] = [] := rfl
@[simp] theorem ZG (p : PV) (l : List PV) : Jm (p :: l) = p.els ++ Jm l := by simp [Jm]
theorem Jab (a b : List PV) : Jm (a ++ b) = Jm a ++ Jm b := by simp [Jm]
theorem Jbl (l : List PV) (i : Nat) (h : i < l.length) : l.take (i + 1) = l.take i ++ [l.getD i .top] := by
  rw [List.take_add_one, List.getD_eq_getElem?_getD, List.getElem?_eq_getElem h]; rfl
theorem JgW (l : List PV) (i : Nat) (h : i < l.length) : l.drop i = l.getD i .top :: l.drop (i + 1) := by
  rw [List.drop_eq_getElem_cons h, List.getD_eq_getElem?_getD, List.getElem?_eq_getElem h]; rfl
theorem GD (l : List PV) (i : Nat) (h : i < l.length) : Jm (l.take (i + 1)) = Jm (l.take i) ++ (l.getD i .top).els := by
  rw [Jbl l i h, Jab, ZG, Jk4, List.append_nil]
theorem VS (l : List PV) (i : Nat) : (Jm (l.take i)).length ≤ (Jm l).length := by
  have : Jm l = Jm (l.take i) ++ Jm (l.drop i) := by rw [← Jab, List.take_append_drop]
  rw [this, List.length_append]; omega
theorem JcJ {l : List PV} (h : l.all (PV.isRo 5) = true) {i : Nat} (hi : i < l.length) : (l.getD i .top).isRo 5 = true := by
  rw [List.getD_eq_getElem?_getD, List.getElem?_eq_getElem hi]
  exact List.all_eq_true.1 h _ (List.getElem_mem hi)
theorem Jfg {α : Type} (a b : List α) : (a ++ b).isEmpty = (a.isEmpty && b.isEmpty) := by cases a <;> rfl
theorem JpR (f : Nat) (k0 : Bool → Bool → List PV → Int → Option Res) (a b : Bool) (c : List PV) (nl fl : Bool) (l : List PV) (hl : l.all (PV.isRo 5) = true) (hs : (Jm l).length ≤ 140737488355328) (hn : l.length ≤ 140737488355328) : ∀ (d i n : Nat), i + d = l.length → d < n →
    Z8 f k0 n a b c ((Jm (l.take i)).length : Int) nl fl l (l.length : Int) (i : Int) = k0 a b c ((Jm l).length : Int)
  | 0, i, n + 1, h, hd => by
      obtain rfl : i = l.length := by omega
      simp only [Z8, VQ]
      exact (JK (by simp)).trans (by rw [List.take_length])
  | d + 1, i, n + 1, h, hd => by
      have hle := VS l (i + 1)
      have hadd : (Jm (l.take (i + 1))).length = (Jm (l.take i)).length + (l.getD i .top).els.length := by rw [GD l i (by omega), List.length_append]
      have h1 : IntKind.i64.wrap ((i : Int) + 1) = ((i + 1 : Nat) : Int) := by rw [wrap_i64 (by omega) (by omega)]; omega
      have h2 : IntKind.i64.wrap (((Jm (l.take i)).length : Int) + ((l.getD i .top).els.length : Int)) = ((Jm (l.take (i + 1))).length : Int) := by rw [wrap_i64 (by omega) (by omega)]; omega
      simp only [Z8, VQ, zi, Int.toNat_natCast, h1, h2]
      refine (Jc (by simp <;> omega)).trans ?_
      refine (Jc (by rw [JcJ hl (by omega)]; simp; omega)).trans ?_
      refine (JK (by simp <;> omega)).trans ?_
      exact JpR f k0 a b c nl fl l hl hs hn d (i + 1) n (by omega) (by omega)
theorem Jk5 (f : Nat) (k0 : Nat → Bool → List PV → Option Res) (nl fl : Bool) (l : List PV) (hl : l.all (PV.isRo 5) = true) (hs : (Jm l).length ≤ 140737488355328) (hn : l.length ≤ 140737488355328) : ∀ (d i n : Nat) (z : Bool) (v : List PV), i + d = l.length → d < n → v.take (Jm (l.take i)).length = Jm (l.take i) → (d = 0 → v = Jm l) →
    Xw f k0 n (Jm (l.take i)).length nl fl l (l.length : Int) (i : Int) z v = k0 (Jm l).length (z && (Jm (l.drop i)).isEmpty) (Jm l)
  | 0, i, n + 1, z, v, h, hd, hv, h0 => by
      obtain rfl : i = l.length := by omega
      simp only [Xw, VR]
      refine (JK (by simp)).trans ?_
      rw [List.take_length, h0 rfl, List.drop_length]; simp
  | d + 1, i, n + 1, z, v, h, hd, hv, h0 => by
      have hle := VS l (i + 1)
      have hadd : (Jm (l.take (i + 1))).length = (Jm (l.take i)).length + (l.getD i .top).els.length := by rw [GD l i (by omega), List.length_append]
      have h1 : IntKind.i64.wrap ((i : Int) + 1) = ((i + 1 : Nat) : Int) := by rw [wrap_i64 (by omega) (by omega)]; omega
      simp only [Xw, VR, zi, Int.toNat_natCast, h1, hv]
      refine (Jc (by simp <;> omega)).trans ?_
      refine (Jc (by rw [JcJ hl (by omega)]; simp; omega)).trans ?_
      refine (Jc (by simp only [Jn, Bool.and_true, decide_eq_true_eq]; omega)).trans ?_
      have := Jk5 f k0 nl fl l hl hs hn d (i + 1) n (z && (l.getD i .top).els.isEmpty) (Jm (l.take (i + 1))) (by omega) (by omega) (List.take_length) (fun hd0 => by rw [show i + 1 = l.length from by omega, List.take_length])
      rw [hadd, GD l i (by omega)] at this
      rw [this, JgW l i (by omega), ZG, Jfg, Bool.and_assoc]
def JgX : List PV → List Ent → (Res → Option Res) → Option Res
  | [.ro 29 nl fl l], [], k => bif l.all (PV.isRo 5) && (decide ((Jm l).length ≤ 140737488355328) && decide (l.length ≤ 140737488355328)) then k ⟨.ow 5 16 [] 0 (Jm l).length none, [], [.vec false 5 (Jm l).isEmpty (Jm l)]⟩ else none
  | _, _, _ => none
def Jnv : Sig := { own := [], run := JgX }
theorem JrT (nl fl : Bool) (l : List PV) (k : Res → Option Res) (hl : l.all (PV.isRo 5) = true) (hs : (Jm l).length ≤ 140737488355328) (hn : l.length ≤ 140737488355328) :
    g70 (l.length + 1) nl fl l k = k ⟨.ow 5 16 [] 0 (Jm l).length none, [], [.vec false 5 (Jm l).isEmpty (Jm l)]⟩ := by
  have h0 := JpR (l.length + 1) (fun x0_0 x1_0 x2_0 x3_0 =>
    bif decide (x3_0 < 0) then
      none
    else bif decide (IntKind.i64.wrap (x3_0 - IntKind.i64.wrap (zi 0 - zi 0)) > 0) then
      bif decide (0 ≤ IntKind.i64.wrap (x3_0 - IntKind.i64.wrap (zi 0 - zi 0))) && Jn (IntKind.i64.wrap (x3_0 - IntKind.i64.wrap (zi 0 - zi 0))).toNat 1 && true then
        Xw (l.length + 1) (fun x0_1 x1_1 x2_1 =>
          k (Res.mk (PV.ow 5 16 [] 0 x0_1 none) []
            [Ent.vec false 5 x1_1
                x2_1])) (l.length + 1) (0) x0_0 x1_0 x2_0 (zi
          x2_0.length) (0) (IntKind.i64.wrap (x3_0 - IntKind.i64.wrap (zi 0 - zi 0)) ==
          0) (List.replicate (IntKind.i64.wrap (x3_0 - IntKind.i64.wrap (zi 0 - zi 0))).toNat (PV.sc (Value.int IntKind.u8 0)))
      else none
    else Xw (l.length + 1) (fun x0_2 x1_2 x2_2 =>
      k (Res.mk (PV.ow 5 16 [] 0 x0_2 none) [] [Ent.vec false 5 x1_2 x2_2])) (l.length + 1) (0) x0_0 x1_0 x2_0 (zi x2_0.length) (0) true ([])) nl fl l nl fl l hl hs hn l.length 0 (l.length + 1) (by omega) (by omega)
  refine h0.trans ?_
  have hw : IntKind.i64.wrap (((Jm l).length : Int) - IntKind.i64.wrap (zi 0 - zi 0)) = ((Jm l).length : Int) := by
    have : IntKind.i64.wrap (zi 0 - zi 0) = 0 := by decide
    rw [this, wrap_i64 (by omega) (by omega)]; omega
  simp only [hw]
  refine (JK (by simp <;> omega)).trans ?_
  cases he : (Jm l).isEmpty with
  | true =>
    have he' : Jm l = [] := by simpa using he
    refine (JK (by simp [he'])).trans ?_
    have := Jk5 (l.length + 1) (fun x0_2 x1_2 x2_2 => k (Res.mk (PV.ow 5 16 [] 0 x0_2 none) [] [Ent.vec false 5 x1_2 x2_2])) nl fl l hl hs hn l.length 0 (l.length + 1) true [] (by omega) (by omega) (by simp) (fun _ => he'.symm)
    refine this.trans ?_
    simp [he']
  | false =>
    have he' : Jm l ≠ [] := by simpa using he
    have hpos : 0 < (Jm l).length := List.length_pos_iff.2 he'
    have hl0 : l.length ≠ 0 := by
      intro h; rw [List.length_eq_zero_iff] at h; subst h; simp at he'
    refine (Jc (by simp <;> omega)).trans ?_
    refine (Jc (by simp [Jn] <;> omega)).trans ?_
    have := Jk5 (l.length + 1) (fun x0_2 x1_2 x2_2 => k (Res.mk (PV.ow 5 16 [] 0 x0_2 none) [] [Ent.vec false 5 x1_2 x2_2])) nl fl l hl hs hn l.length 0 (l.length + 1) (((Jm l).length : Int) == 0) (List.replicate (((Jm l).length : Int)).toNat (PV.sc (Value.int IntKind.u8 0))) (by omega) (by omega) (by simp) (fun h => absurd h hl0)
    refine this.trans ?_
    have hz : (((Jm l).length : Int) == 0) = false := by simp [he']
    rw [hz]; rfl
theorem Jk6 : Ji tau Try.prog 70 Jnv := Jgw Jr JgV Js Jvt Jvu (fun n => Jns (Jbj n) (Jbk n)) [] 0 [] JgX (fun n => JzP n) fun xs es k res hr => by
  unfold JgX at hr
  split at hr
  · rename_i nl fl l
    obtain ⟨hc, hr⟩ := JL hr
    simp only [Bool.and_eq_true, decide_eq_true_eq] at hc
    refine ⟨rfl, l.length + 1, 0, (e70 _ _ _ _ _).trans ?_⟩
    rw [JrT _ _ _ _ hc.1 hc.2.1 hc.2.2]; exact hr
  · cases hr
end Go.Proofs.Ytcklhipdldpkhaa.Rx
