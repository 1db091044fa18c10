/- What the functions of this law compute, and their plain laws. Conditions: none. -/
import Derived.Test.YtcklhipdldpkhaaProg
import Derived.Test.YtcklhipdldpkhaaSignEntriesZ4
namespace Go.Proofs.Ytcklhipdldpkhaa.Rx
open Go
set_option linter.unusedVariables false
set_option linter.unusedSimpArgs false
set_option maxRecDepth 100000
set_option maxHeartbeats 0
def tys : List TypeId := [1, 2, 3, 4, 5, 9, 12, 21, 22, 23, 24, 25, 26, 28, 29, 30, 31, 32, 33, 34, 35, 36, 37, 38, 39, 40, 41, 42, 43, 44, 45, 46, 47, 48, 49, 50, 51, 52, 53, 54, 55, 56, 57, 58, 59, 60, 62, 64, 65, 66, 67, 68, 69, 70, 71, 72, 73, 74, 75, 76, 77, 78, 79, 81, 82, 83, 85, 86, 87, 88, 89, 90, 91, 92, 93, 94, 95, 96, 97, 98, 99, 100, 101, 102, 103, 104, 105, 106, 107, 109, 110, 111, 112, 113, 114, 115, 116, 117, 118, 119, 120, 121, 122, 123, 124, 125, 126, 128, 129, 130, 131, 132, 133, 134, 135, 136, 137, 138, 139, 140, 141, 142, 143, 144, 145, 146, 147, 148, 149, 150, 151, 152, 153, 155, 156, 157, 158, 160, 161, 162, 163, 164, 165, 166, 167, 168, 170, 172, 173, 174, 176, 177, 184, 185, 186, 187, 188, 189, 190, 191, 192, 193, 195, 196, 197, 198, 200, 202, 203, 204, 205, 206, 207, 208, 209, 212, 213]
def Jy2 : TypeId → Option PV := fun t =>
  bif t == 1 then some (.sc .nilFunc) else
  bif t == 2 then some (.sc (.int .i64 0)) else
  bif t == 3 then some (.sc (.int .i64 0)) else
  bif t == 4 then some (.sc (.bool false)) else
  bif t == 5 then some (.sc (.int .u8 0)) else
  bif t == 9 then some (.sc (.string ByteArray.empty)) else
  bif t == 12 then some (.sc (.int .u64 0)) else
  bif t == 21 then some (.sc (.int .i32 0)) else
  bif t == 22 then some (.ro 106 true true []) else
  bif t == 23 then some (.sc .nilFunc) else
  bif t == 24 then some (.sc .nilFunc) else
  bif t == 25 then some (.ro 93 true true []) else
  bif t == 26 then some (.ro 41 true true []) else
  bif t == 28 then some (.sc .nilFunc) else
  bif t == 29 then some (.ro 5 true true []) else
  bif t == 30 then some (.st 30 (List.replicate 3 (.ro 5 true true []))) else
  bif t == 31 then some (.st 31 (List.replicate 3 (.ro 5 true true []))) else
  bif t == 32 then some (.sc .nilFunc) else
  bif t == 33 then some (.st 33 [.sc (.int .i64 0), .sc (.int .i64 0)]) else
  bif t == 34 then some (.st 34 [.sc (.int .i64 0), .sc (.int .i64 0)]) else
  bif t == 35 then some (.ro 45 true true []) else
  bif t == 36 then some (.ar 36 (List.replicate 32 (.sc (.int .u8 0)))) else
  bif t == 37 then some (.ar 37 (List.replicate 32 (.sc (.int .u8 0)))) else
  bif t == 38 then some (.st 38 [.st 34 [.sc (.int .i64 0), .sc (.int .i64 0)], .sc (.string ByteArray.empty), .ro 45 true true [], .sc (.int .i64 0), .ar 37 (List.replicate 32 (.sc (.int .u8 0)))]) else
  bif t == 39 then some (.st 39 [.st 34 [.sc (.int .i64 0), .sc (.int .i64 0)], .sc (.string ByteArray.empty), .ro 45 true true [], .sc (.int .i64 0), .ar 37 (List.replicate 32 (.sc (.int .u8 0)))]) else
  bif t == 40 then some (.sc .nilFunc) else
  bif t == 41 then some (.st 41 [.st 34 [.sc (.int .i64 0), .sc (.int .i64 0)], .sc (.string ByteArray.empty), .ro 45 true true [], .sc (.int .i64 0), .ar 37 (List.replicate 32 (.sc (.int .u8 0)))]) else
  bif t == 42 then some (.sc .nilFunc) else
  bif t == 43 then some (.sc .nilFunc) else
  bif t == 44 then some (.st 44 [.sc (.int .i64 0), .sc (.int .i64 0)]) else
  bif t == 45 then some (.st 45 [.sc (.int .i64 0), .sc (.int .i64 0)]) else
  bif t == 46 then some (.sc .nilFunc) else
  bif t == 47 then some (.ro 29 true true []) else
  bif t == 48 then some (.sc .nilFunc) else
  bif t == 49 then some (.sc .nilFunc) else
  bif t == 50 then some (.sc .nilFunc) else
  bif t == 51 then some (.sc .nilFunc) else
  bif t == 52 then some (.sc .nilFunc) else
  bif t == 53 then some (.st 53 [.sc (.int .i64 0), .sc (.int .i64 0), .sc (.int .i64 0), .st 34 [.sc (.int .i64 0), .sc (.int .i64 0)], .st 45 [.sc (.int .i64 0), .sc (.int .i64 0)], .sc (.int .i64 0), .sc (.int .i64 0), .st 45 [.sc (.int .i64 0), .sc (.int .i64 0)], .sc (.int .i64 0), .sc (.int .i64 0), .ro 29 true true []]) else
  bif t == 54 then some (.st 54 [.sc (.int .i64 0), .sc (.int .i64 0), .sc (.int .i64 0), .st 34 [.sc (.int .i64 0), .sc (.int .i64 0)], .st 45 [.sc (.int .i64 0), .sc (.int .i64 0)], .sc (.int .i64 0), .sc (.int .i64 0), .st 45 [.sc (.int .i64 0), .sc (.int .i64 0)], .sc (.int .i64 0), .sc (.int .i64 0), .ro 29 true true []]) else
  bif t == 55 then some (.ro 3 true true []) else
  bif t == 56 then some (.sc .nilFunc) else
  bif t == 57 then some (.sc .nilFunc) else
  bif t == 58 then some (.sc .nilFunc) else
  bif t == 59 then some (.sc .nilFunc) else
  bif t == 60 then some (.sc (.int .i64 0)) else
  bif t == 62 then some (.sc .nilFunc) else
  bif t == 64 then some (.sc .nilFunc) else
  bif t == 65 then some (.sc .nilFunc) else
  bif t == 66 then some (.sc .nilFunc) else
  bif t == 67 then some (.sc .nilFunc) else
  bif t == 68 then some (.sc .nilFunc) else
  bif t == 69 then some (.sc .nilFunc) else
  bif t == 70 then some (.ro 99 true true []) else
  bif t == 71 then some (.ro 99 true true []) else
  bif t == 72 then some (.st 72 [.st 45 [.sc (.int .i64 0), .sc (.int .i64 0)], .sc (.int .i64 0), .sc (.int .i64 0), .ar 37 (List.replicate 32 (.sc (.int .u8 0))), .sc (.int .i64 0), .ro 99 true true [], .st 45 [.sc (.int .i64 0), .sc (.int .i64 0)]]) else
  bif t == 73 then some (.st 73 [.st 45 [.sc (.int .i64 0), .sc (.int .i64 0)], .sc (.int .i64 0), .sc (.int .i64 0), .ar 37 (List.replicate 32 (.sc (.int .u8 0))), .sc (.int .i64 0), .ro 99 true true [], .st 45 [.sc (.int .i64 0), .sc (.int .i64 0)]]) else
  bif t == 74 then some (.sc .nilFunc) else
  bif t == 75 then some (.sc .nilFunc) else
  bif t == 76 then some (.st 76 [.ro 5 true true [], .ar 37 (List.replicate 32 (.sc (.int .u8 0)))]) else
  bif t == 77 then some (.st 77 [.ro 5 true true [], .ar 37 (List.replicate 32 (.sc (.int .u8 0)))]) else
  bif t == 78 then some (.sc .nilFunc) else
  bif t == 79 then some (.sc .nilFunc) else
  bif t == 81 then some (.sc .nilFunc) else
  bif t == 82 then some (.sc .nilFunc) else
  bif t == 83 then some (.ro 31 true true []) else
  bif t == 85 then some (.sc .nilFunc) else
  bif t == 86 then some (.sc .nilFunc) else
  bif t == 87 then some (.sc .nilFunc) else
  bif t == 88 then some (.sc .nilFunc) else
  bif t == 89 then some (.sc .nilFunc) else
  bif t == 90 then some (.sc .nilFunc) else
  bif t == 91 then some (.sc .nilFunc) else
  bif t == 92 then some (.st 92 [.st 77 [.ro 5 true true [], .ar 37 (List.replicate 32 (.sc (.int .u8 0)))], .sc (.int .i64 0), .ro 99 true true [], .ar 37 (List.replicate 32 (.sc (.int .u8 0))), .ar 37 (List.replicate 32 (.sc (.int .u8 0)))]) else
  bif t == 93 then some (.st 93 [.st 77 [.ro 5 true true [], .ar 37 (List.replicate 32 (.sc (.int .u8 0)))], .sc (.int .i64 0), .ro 99 true true [], .ar 37 (List.replicate 32 (.sc (.int .u8 0))), .ar 37 (List.replicate 32 (.sc (.int .u8 0)))]) else
  bif t == 94 then some (.sc .nilFunc) else
  bif t == 95 then some (.sc .nilFunc) else
  bif t == 96 then some (.sc .nilFunc) else
  bif t == 97 then some (.sc .nilFunc) else
  bif t == 98 then some (.st 98 [.sc (.int .i64 0), .sc (.int .i64 0), .sc (.string ByteArray.empty)]) else
  bif t == 99 then some (.st 99 [.sc (.int .i64 0), .sc (.int .i64 0), .sc (.string ByteArray.empty)]) else
  bif t == 100 then some (.sc .nilFunc) else
  bif t == 101 then some (.sc .nilFunc) else
  bif t == 102 then some (.sc .nilFunc) else
  bif t == 103 then some (.sc .nilFunc) else
  bif t == 104 then some (.sc .nilFunc) else
  bif t == 105 then some (.st 105 [.sc (.int .i64 0), .sc (.int .i64 0), .sc (.int .i64 0), .ro 3 true true []]) else
  bif t == 106 then some (.st 106 [.sc (.int .i64 0), .sc (.int .i64 0), .sc (.int .i64 0), .ro 3 true true []]) else
  bif t == 107 then some (.sc .nilFunc) else
  bif t == 109 then some (.sc .nilFunc) else
  bif t == 110 then some (.sc .nilFunc) else
  bif t == 111 then some (.sc (.int .u32 0)) else
  bif t == 112 then some (.ar 112 (List.replicate 8 (.sc (.int .u32 0)))) else
  bif t == 113 then some (.ar 113 (List.replicate 8 (.sc (.int .u32 0)))) else
  bif t == 114 then some (.sc .nilFunc) else
  bif t == 115 then some (.sc .nilFunc) else
  bif t == 116 then some (.sc .nilFunc) else
  bif t == 117 then some (.sc .nilFunc) else
  bif t == 118 then some (.ar 118 (List.replicate 64 (.sc (.int .u32 0)))) else
  bif t == 119 then some (.sc .nilFunc) else
  bif t == 120 then some (.sc (.int .u64 0)) else
  bif t == 121 then some (.sc (.int .u64 0)) else
  bif t == 122 then some (.sc .nilFunc) else
  bif t == 123 then some (.sc .nilFunc) else
  bif t == 124 then some (.sc .nilFunc) else
  bif t == 125 then some (.sc (.pointer none)) else
  bif t == 126 then some (.sc .nilFunc) else
  bif t == 128 then some (.sc .nilFunc) else
  bif t == 129 then some (.sc .nilFunc) else
  bif t == 130 then some (.sc .nilFunc) else
  bif t == 131 then some (.sc .nilFunc) else
  bif t == 132 then some (.sc .nilFunc) else
  bif t == 133 then some (.sc (.pointer none)) else
  bif t == 134 then some (.sc .nilFunc) else
  bif t == 135 then some (.sc .nilFunc) else
  bif t == 136 then some (.sc .nilFunc) else
  bif t == 137 then some (.st 137 [.ro 5 true true [], .sc (.int .i64 0), .sc (.int .i64 0)]) else
  bif t == 138 then some (.st 138 [.ro 5 true true [], .sc (.int .i64 0), .sc (.int .i64 0)]) else
  bif t == 139 then some (.sc .nilFunc) else
  bif t == 140 then some (.sc .nilFunc) else
  bif t == 141 then some (.sc .nilFunc) else
  bif t == 142 then some (.sc .nilFunc) else
  bif t == 143 then some (.sc .nilFunc) else
  bif t == 144 then some (.sc .nilFunc) else
  bif t == 145 then some (.ro 148 true true []) else
  bif t == 146 then some (.sc .nilFunc) else
  bif t == 147 then some (.sc (.pointer none)) else
  bif t == 148 then some (.sc (.pointer none)) else
  bif t == 149 then some (.sc .nilFunc) else
  bif t == 150 then some (.sc .nilFunc) else
  bif t == 151 then some (.sc .nilFunc) else
  bif t == 152 then some (.sc .nilFunc) else
  bif t == 153 then some (.sc .nilFunc) else
  bif t == 155 then some (.sc .nilFunc) else
  bif t == 156 then some (.sc .nilFunc) else
  bif t == 157 then some (.sc .nilFunc) else
  bif t == 158 then some (.sc .nilFunc) else
  bif t == 160 then some (.sc .nilFunc) else
  bif t == 161 then some (.sc .nilFunc) else
  bif t == 162 then some (.sc .nilFunc) else
  bif t == 163 then some (.sc (.complex .f64 0 0)) else
  bif t == 164 then some (.sc (.float .f64 0)) else
  bif t == 165 then some (.ro 163 true true []) else
  bif t == 166 then some (.sc .nilFunc) else
  bif t == 167 then some (.sc .nilFunc) else
  bif t == 168 then some (.sc .nilFunc) else
  bif t == 170 then some (.sc .nilFunc) else
  bif t == 172 then some (.sc .nilFunc) else
  bif t == 173 then some (.sc .nilFunc) else
  bif t == 174 then some (.sc .nilFunc) else
  bif t == 176 then some (.sc .nilFunc) else
  bif t == 177 then some (.sc .nilFunc) else
  bif t == 184 then some (.sc .nilFunc) else
  bif t == 185 then some (.st 185 [.ro 5 true true [], .sc (.int .i64 0)]) else
  bif t == 186 then some (.st 186 [.ro 5 true true [], .sc (.int .i64 0)]) else
  bif t == 187 then some (.sc .nilFunc) else
  bif t == 188 then some (.sc .nilFunc) else
  bif t == 189 then some (.ar 189 (List.replicate 64 (.sc (.int .u8 0)))) else
  bif t == 190 then some (.ar 190 (List.replicate 64 (.sc (.int .u8 0)))) else
  bif t == 191 then some (.sc .nilFunc) else
  bif t == 192 then some (.sc .nilFunc) else
  bif t == 193 then some (.sc .nilFunc) else
  bif t == 195 then some (.sc .nilFunc) else
  bif t == 196 then some (.sc .nilFunc) else
  bif t == 197 then some (.sc .nilFunc) else
  bif t == 198 then some (.sc .nilFunc) else
  bif t == 200 then some (.sc .nilFunc) else
  bif t == 202 then some (.sc .nilFunc) else
  bif t == 203 then some (.sc (.pointer none)) else
  bif t == 204 then some (.sc .nilFunc) else
  bif t == 205 then some (.sc .nilFunc) else
  bif t == 206 then some (.sc .nilFunc) else
  bif t == 207 then some (.sc .nilFunc) else
  bif t == 208 then some (.sc .nilFunc) else
  bif t == 209 then some (.sc .nilFunc) else
  bif t == 212 then some (.sc .nilFunc) else
  bif t == 213 then some (.sc .nilFunc) else
  none
noncomputable def tau : Tab := VD Try.prog tys Jy2
theorem Js : TabOk tau Try.prog := Jkb (by kernel_rfl)
theorem Jt : Try.prog.follows .mixedOrders = true := by kernel_rfl
def F0 : Fns := fun _ => none
theorem JJ : JA tau Try.prog F0 := fun g sg h => by cases h
noncomputable def F21 : Fns := F0
theorem Jrc : JA tau Try.prog F21 := JJ
def JmD : An := (.seq .leaf (.seq .leaf (.seq .leaf .leaf)))
noncomputable def g21 (f : Nat) (b_z : Bool) (b_f : Bool) (b : List PV) (k : Res → Option Res) : Option Res := bif decide (0 ≤ J3 (zi b.length) 60) && true && decide ((J3 (zi b.length) 60).toNat ≤ b.length) && true then bif Jj (2 + (List.take (J3 (zi b.length) 60).toNat b).length) 1 && true then bif Jj (2 + (List.take (J3 (zi b.length) 60).toNat b).length) 1 && true then bif Jj (2 + (List.take (J3 (zi b.length) 60).toNat b).length) 1 && true then k (Res.mk (.st 31 [.ro 5 false false (List.take (2 + (List.take (J3 (zi b.length) 60).toNat b).length) (.sc (.int .u8 107) :: .sc (.int .u8 48) :: id (List.take (J3 (zi b.length) 60).toNat b))), .ro 5 false false (List.take (2 + (List.take (J3 (zi b.length) 60).toNat b).length) (.sc (.int .u8 107) :: .sc (.int .u8 49) :: id (List.take (J3 (zi b.length) 60).toNat b))), .ro 5 false false (List.take (2 + (List.take (J3 (zi b.length) 60).toNat b).length) (.sc (.int .u8 107) :: .sc (.int .u8 50) :: id (List.take (J3 (zi b.length) 60).toNat b)))]) [] []) else none else none else none else none
theorem e21 (f : Nat) (b_z : Bool) (b_f : Bool) (b : List PV) (k : Res → Option Res) : JN tau F21 Try.f21 (Try.f21.body.get!) JmD [.ro] 0 [.ro 5 b_z b_f b] [] k = g21 f b_z b_f b k := by kernel_rfl
theorem Jy3 (f : Nat) : Ji (Try.f21.body.get!) JmD = [] := by kernel_rfl
theorem Jy4 (f : Nat) : ∀ q ∈ Ji (Try.f21.body.get!) JmD, q.Ok tau Try.prog 0 := by
  rw [Jy3 f]; intro q hq; cases hq
theorem JtT : Try.prog.funcs[21]? = some Try.f21 := by kernel_rfl
theorem JtU : Try.f21.body = some (Try.f21.body.get!) := by kernel_rfl
theorem JtV : Enters Try.prog 21 := enters_of JtT (by kernel_rfl) JtU
noncomputable def Jke : List PV → List Ent → (Res → Option Res) → Option Res
  | [.ro 5 b_z b_f b], [], k => g21 0 b_z b_f b k
  | _, _, _ => none
noncomputable def s21 : Sig := { own := [], run := Jke }
theorem Jy5 : Jk tau Try.prog 21 s21 := JV Js Jrc Jt JtT JtU JmD [.ro] 0 [] Jke (Jy4 0) fun xs es k res hr => by
  unfold Jke at hr
  split at hr
  · exact ⟨rfl, 0, (e21 0 _ _ _  _).trans hr⟩
  · cases hr

-- FN law16.within
noncomputable def okW : Int → Bool := hid fun n => decide (0 < n) && decide (n < 1000000000000)
theorem Z2 (n : Int) : okW n = (decide (0 < n) && decide (n < 1000000000000)) := by rw [okW, hid_eq]


noncomputable def JtW : Fns := F0
theorem JmE : JA tau Try.prog JtW := JJ
def JhL : An := (.seq .leaf (.seq (.seq .leaf (.cond (.seq .leaf .leaf) .leaf)) (.seq .leaf .leaf)))
noncomputable def JmF (f : Nat) (s_z : Bool) (s_f : Bool) (s : List PV) (k : Res → Option Res) : Option Res := bif s_z then k (Res.mk (.ro 5 true true []) [] []) else bif Jj (0 + s.length) 1 && true then k (Res.mk (.ro 5 false false (List.take (0 + s.length) s)) [] []) else none
theorem Jy6 (f : Nat) (s_z : Bool) (s_f : Bool) (s : List PV) (k : Res → Option Res) : JN tau JtW Try.f131 (Try.f131.body.get!) JhL [.ro] 0 [.ro 5 s_z s_f s] [] k = JmF f s_z s_f s k := by kernel_rfl
theorem JtX (f : Nat) : Ji (Try.f131.body.get!) JhL = [] := by kernel_rfl
theorem JtY (f : Nat) : ∀ q ∈ Ji (Try.f131.body.get!) JhL, q.Ok tau Try.prog 0 := by
  rw [JtX f]; intro q hq; cases hq
theorem JoU : Try.prog.funcs[131]? = some Try.f131 := by kernel_rfl
theorem JoV : Try.f131.body = some (Try.f131.body.get!) := by kernel_rfl
theorem JtZ : Enters Try.prog 131 := enters_of JoU (by kernel_rfl) JoV
noncomputable def Jgp : List PV → List Ent → (Res → Option Res) → Option Res
  | [.ro 5 s_z s_f s], [], k => JmF 0 s_z s_f s k
  | _, _, _ => none
noncomputable def Jy7 : Sig := { own := [], run := Jgp }
theorem Jt0 : Jk tau Try.prog 131 Jy7 := JV Js JmE Jt JoU JoV JhL [.ro] 0 [] Jgp (JtY 0) fun xs es k res hr => by
  unfold Jgp at hr
  split at hr
  · exact ⟨rfl, 0, (Jy6 0 _ _ _  _).trans hr⟩
  · cases hr
-- FN slices.Clone[[]byte,byte]
def slB (z : Bool) (l : List PV) : Bool := (!z || l.isEmpty) && Nat.ble l.length 1000000000
theorem Q3 {z : Bool} {l : List PV} : slB z l = true ↔ (z = true → l = []) ∧ l.length ≤ 1000000000 := by
  simp only [slB, Bool.and_eq_true, Nat.ble_eq, Bool.or_eq_true, Bool.not_eq_true', List.isEmpty_iff]
  cases z <;> simp
def Jdf : List PV → List Ent → (Res → Option Res) → Option Res
  | [.ro 5 z f l], [], k => bif slB z l then k ⟨.ro 5 z z l, [], []⟩ else none
  | _, _, _ => none
def JoW : Sig := { own := [], run := Jdf }
theorem Jrd : Jk tau Try.prog 131 JoW := Jt0.of fun xs es k res hr => by
  change Jdf xs es k = some res at hr
  unfold Jdf at hr
  split at hr
  · rename_i z f l
    obtain ⟨hc, hr⟩ := JL hr
    obtain ⟨h1, h2⟩ := Q3.1 hc
    show JmF 0 z f l k = some res
    unfold JmF
    cases z with
    | true => obtain rfl := h1 rfl; exact hr
    | false =>
      rw [cond_false, Jb (by simp [Jj]; omega)]
      simp only [Nat.zero_add, List.nil_append, List.take_length]
      exact hr
  · cases hr
noncomputable def F76 : Fns := JH 131 JoW (F0)
theorem Jre : JA tau Try.prog F76 := (JJ).add Jrd JtZ
def JmG : An := (.seq .leaf (.seq .leaf .leaf))
noncomputable def g76 (f : Nat) (b_z : Bool) (b_f : Bool) (b : List PV) (k : Res → Option Res) : Option Res := bif slB b_z b then k (Res.mk (.ptr 16 []) [] [.box false 186 (PV.st 186 [.ro 5 b_z b_z b, .sc (.int .i64 0)])]) else none
theorem e76 (f : Nat) (b_z : Bool) (b_f : Bool) (b : List PV) (k : Res → Option Res) : JN tau F76 Try.f76 (Try.f76.body.get!) JmG [.any] 0 [.ro 5 b_z b_f b] [] k = g76 f b_z b_f b k := by kernel_rfl
theorem Jy8 (f : Nat) : Ji (Try.f76.body.get!) JmG = [] := by kernel_rfl
theorem Jy9 (f : Nat) : ∀ q ∈ Ji (Try.f76.body.get!) JmG, q.Ok tau Try.prog 0 := by
  rw [Jy8 f]; intro q hq; cases hq
theorem Jt1 : Try.prog.funcs[76]? = some Try.f76 := by kernel_rfl
theorem Jt2 : Try.f76.body = some (Try.f76.body.get!) := by kernel_rfl
theorem Jt3 : Enters Try.prog 76 := enters_of Jt1 (by kernel_rfl) Jt2
noncomputable def Jkf : List PV → List Ent → (Res → Option Res) → Option Res
  | [.ro 5 b_z b_f b], [], k => g76 0 b_z b_f b k
  | _, _, _ => none
noncomputable def s76 : Sig := { own := [], run := Jkf }
theorem Jt4 : Jk tau Try.prog 76 s76 := JV Js Jre Jt Jt1 Jt2 JmG [.any] 0 [] Jkf (Jy9 0) fun xs es k res hr => by
  unfold Jkf at hr
  split at hr
  · exact ⟨rfl, 0, (e76 0 _ _ _  _).trans hr⟩
  · cases hr

noncomputable def Jt5 : Fns := F0
theorem JmH : JA tau Try.prog Jt5 := JJ
def JhM : An := (.seq .leaf (.cond .leaf .leaf))
noncomputable def Jt6 (f : Nat) (r_b_z : Bool) (r_b_f : Bool) (r_b : List PV) (r_e : Int) (e : Int) (k : Res → Option Res) : Option Res := bif r_e == 0 then k (Res.mk (.tup []) [.box false 186 (PV.st 186 [.ro 5 r_b_z r_b_f r_b, .sc (.int .i64 e)])] []) else k (Res.mk (.tup []) [.box false 186 (PV.st 186 [.ro 5 r_b_z r_b_f r_b, .sc (.int .i64 r_e)])] [])
theorem Jza (f : Nat) (r_b_z : Bool) (r_b_f : Bool) (r_b : List PV) (r_e : Int) (e : Int) (k : Res → Option Res) : JN tau Jt5 Try.f134 (Try.f134.body.get!) JhM [] 0 [.ptr 0 [], .sc (.int .i64 e)] [.box false 186 (.st 186 [.ro 5 r_b_z r_b_f r_b, .sc (.int .i64 r_e)])] k = Jt6 f r_b_z r_b_f r_b r_e e k := by kernel_rfl
theorem Jt7 (f : Nat) : Ji (Try.f134.body.get!) JhM = [] := by kernel_rfl
theorem Jt8 (f : Nat) : ∀ q ∈ Ji (Try.f134.body.get!) JhM, q.Ok tau Try.prog 1 := by
  rw [Jt7 f]; intro q hq; cases hq
theorem JoX : Try.prog.funcs[134]? = some Try.f134 := by kernel_rfl
theorem JoY : Try.f134.body = some (Try.f134.body.get!) := by kernel_rfl
theorem JoZ : Enters Try.prog 134 := enters_of JoX (by kernel_rfl) JoY
noncomputable def Jgq : List PV → List Ent → (Res → Option Res) → Option Res
  | [.ptr 0 [], .sc (.int .i64 e)], [.box false 186 (.st 186 [.ro 5 r_b_z r_b_f r_b, .sc (.int .i64 r_e)])], k => Jt6 0 r_b_z r_b_f r_b r_e e k
  | _, _, _ => none
noncomputable def Jrf : Sig := { own := [], run := Jgq }
theorem Jo0 : Jk tau Try.prog 134 Jrf := JV Js JmH Jt JoX JoY JhM [] 1 [] Jgq (Jt8 0) fun xs es k res hr => by
  unfold Jgq at hr
  split at hr
  · exact ⟨rfl, 0, (Jza 0 _ _ _ _ _  _).trans hr⟩
  · cases hr
noncomputable def Jt9 : Fns := JH 134 Jrf (F0)
theorem JmI : JA tau Try.prog Jt9 := (JJ).add Jo0 JoZ
def JhN : An := (.seq .leaf (.seq (.seq .leaf (.cond .leaf .leaf)) (.seq (.seq .leaf (.cond (.seq .leaf .leaf) .leaf)) (.seq .leaf (.seq .leaf (.seq .leaf .leaf))))))
noncomputable def JmJ (f : Nat) (r_b_z : Bool) (r_b_f : Bool) (r_b : List PV) (r_e : Int) (n : Int) (k : Res → Option Res) : Option Res := bif decide (n > zi r_b.length) then bif r_e == 0 then k (Res.mk (.ro 5 true true []) [.box false 186 (PV.st 186 [.ro 5 r_b_z r_b_f r_b, .sc (.int .i64 8)])] []) else bif r_e != 0 then k (Res.mk (.ro 5 true true []) [.box false 186 (PV.st 186 [.ro 5 r_b_z r_b_f r_b, .sc (.int .i64 r_e)])] []) else bif decide (0 ≤ n) && true && decide (n.toNat ≤ r_b.length) && true then bif decide (0 ≤ n) && true && decide (n.toNat ≤ r_b.length) && decide (r_b.length ≤ r_b.length) && true then k (Res.mk (.ro 5 r_b_z (r_b_z || r_b_f && false) (List.take n.toNat r_b)) [.box false 186 (PV.st 186 [.ro 5 r_b_z (r_b_z || r_b_f && true) (List.drop n.toNat (List.take r_b.length r_b)), .sc (.int .i64 r_e)])] []) else none else none else bif r_e != 0 then k (Res.mk (.ro 5 true true []) [.box false 186 (PV.st 186 [.ro 5 r_b_z r_b_f r_b, .sc (.int .i64 r_e)])] []) else bif decide (0 ≤ n) && true && decide (n.toNat ≤ r_b.length) && true then bif decide (0 ≤ n) && true && decide (n.toNat ≤ r_b.length) && decide (r_b.length ≤ r_b.length) && true then k (Res.mk (.ro 5 r_b_z (r_b_z || r_b_f && false) (List.take n.toNat r_b)) [.box false 186 (PV.st 186 [.ro 5 r_b_z (r_b_z || r_b_f && true) (List.drop n.toNat (List.take r_b.length r_b)), .sc (.int .i64 r_e)])] []) else none else none
theorem Jzb (f : Nat) (r_b_z : Bool) (r_b_f : Bool) (r_b : List PV) (r_e : Int) (n : Int) (k : Res → Option Res) : JN tau Jt9 Try.f156 (Try.f156.body.get!) JhN [.ro] 0 [.ptr 0 [], .sc (.int .i64 n)] [.box false 186 (.st 186 [.ro 5 r_b_z r_b_f r_b, .sc (.int .i64 r_e)])] k = JmJ f r_b_z r_b_f r_b r_e n k := by kernel_rfl
theorem Jua (f : Nat) : Ji (Try.f156.body.get!) JhN = [] := by kernel_rfl
theorem Jub (f : Nat) : ∀ q ∈ Ji (Try.f156.body.get!) JhN, q.Ok tau Try.prog 1 := by
  rw [Jua f]; intro q hq; cases hq
theorem Jo1 : Try.prog.funcs[156]? = some Try.f156 := by kernel_rfl
theorem Jo2 : Try.f156.body = some (Try.f156.body.get!) := by kernel_rfl
theorem Jo3 : Enters Try.prog 156 := enters_of Jo1 (by kernel_rfl) Jo2
noncomputable def Jgr : List PV → List Ent → (Res → Option Res) → Option Res
  | [.ptr 0 [], .sc (.int .i64 n)], [.box false 186 (.st 186 [.ro 5 r_b_z r_b_f r_b, .sc (.int .i64 r_e)])], k => JmJ 0 r_b_z r_b_f r_b r_e n k
  | _, _, _ => none
noncomputable def Jzc : Sig := { own := [], run := Jgr }
theorem Juc : Jk tau Try.prog 156 Jzc := JV Js JmI Jt Jo1 Jo2 JhN [.ro] 1 [] Jgr (Jub 0) fun xs es k res hr => by
  unfold Jgr at hr
  split at hr
  · exact ⟨rfl, 0, (Jzb 0 _ _ _ _ _  _).trans hr⟩
  · cases hr
structure RS where
  b : List PV
  e : Int
def byB (l : List PV) : Bool := l.all fun p => p.isInt .u8 && (decide (0 ≤ p.int) && decide (p.int < 256))
def Xl : List Int → Int
  | [] => 0
  | x :: r => x + 256 * Xl r
def YL (n : Nat) (s : RS) : Bool := s.e == 0 && Nat.ble n s.b.length
def Qg (n : Nat) (s : RS) : RS := bif YL n s then ⟨s.b.drop n, 0⟩ else ⟨s.b, bif s.e == 0 then 8 else s.e⟩
def QC (n : Nat) (s : RS) : List PV := bif YL n s then s.b.take n else []
def Wk (n : Nat) (s : RS) : Int := IntKind.i64.wrap (Xl (Jh (QC n s)))
noncomputable def okS : Nat → RS → Bool := hid YL
noncomputable def JeP : Nat → RS → List PV := hid QC
theorem Jrg (n : Nat) (s : RS) : okS n s = YL n s := by rw [okS, hid_eq]
theorem Jdg (n : Nat) (s : RS) : JeP n s = QC n s := by rw [JeP, hid_eq]
noncomputable def Jc : Nat → RS → RS := hid Qg
noncomputable def JC : Nat → RS → Int := hid Wk
theorem WT (n : Nat) (s : RS) : Jc n s = Qg n s := by rw [Jc, hid_eq]
theorem W2 (n : Nat) (s : RS) : JC n s = Wk n s := by rw [JC, hid_eq]
def JeQ (s : RS) : RS := Qg (Wk 2 s).toNat (Qg 2 s)
def JeR (s : RS) : ByteArray := ⟨(Jl (QC (Wk 2 s).toNat (Qg 2 s))).toArray⟩
noncomputable def J5 : RS → RS := hid JeQ
noncomputable def JS : RS → ByteArray := hid JeR
theorem Jaq (s : RS) : J5 s = JeQ s := by rw [J5, hid_eq]
theorem Jar (s : RS) : JS s = JeR s := by rw [JS, hid_eq]
theorem QK {l : List PV} : byB l = true ↔ Jd .u8 l = true ∧ ∀ x ∈ Jh l, 0 ≤ x ∧ x < 256 := by
  induction l with
  | nil => simp [byB, Jd, Jh]
  | cons p ps ih =>
    have e1 : byB (p :: ps) = ((p.isInt .u8 && (decide (0 ≤ p.int) && decide (p.int < 256))) && byB ps) := rfl
    have e2 : Jh (p :: ps) = p.int :: Jh ps := rfl
    have e3 : Jd .u8 (p :: ps) = (p.isInt .u8 && Jd .u8 ps) := rfl
    rw [e1, e2, e3]
    simp only [Bool.and_eq_true, decide_eq_true_eq, List.mem_cons, forall_eq_or_imp, ih]
    constructor
    · rintro ⟨⟨h1, h2⟩, h3, h4⟩
      exact ⟨⟨h1, h3⟩, h2, h4⟩
    · rintro ⟨⟨h1, h3⟩, h2, h4⟩
      exact ⟨⟨h1, h2⟩, h3, h4⟩
theorem Jkg {l : List PV} (h : byB l = true) (n : Nat) : byB (l.take n) = true := List.all_eq_true.2 fun p hp => List.all_eq_true.1 h p (List.mem_of_mem_take hp)
theorem Jkh {l : List PV} (h : byB l = true) (n : Nat) : byB (l.drop n) = true := List.all_eq_true.2 fun p hp => List.all_eq_true.1 h p (List.mem_of_mem_drop hp)
theorem Jki {l : List Int} : byB (pu .u8 l) = true ↔ ∀ x ∈ l, 0 ≤ x ∧ x < 256 := by rw [QK]; simp
theorem Xy {s : RS} (h : byB s.b = true) (n : Nat) : byB (Qg n s).b = true := by
  unfold Qg; cases YL n s
  · exact h
  · exact Jkh h n
theorem Jdh {s : RS} (h : byB s.b = true) (n : Nat) : byB (QC n s) = true := by
  unfold QC; cases YL n s
  · rfl
  · exact Jkg h n
theorem Z3 (n : Nat) (s : RS) : (QC n s).length ≤ n := by
  unfold QC; cases YL n s
  · exact Nat.zero_le _
  · simp; omega
theorem YM : ∀ (l : List Int), (∀ x ∈ l, 0 ≤ x ∧ x < 256) → 0 ≤ Xl l ∧ Xl l < 256 ^ l.length
  | [], h => by simp [Xl]
  | x :: r, h => by
      have h1 := h x List.mem_cons_self
      have h2 := YM r fun y hy => h y (List.mem_cons_of_mem _ hy)
      simp only [Xl, List.length_cons, Int.pow_succ]
      generalize (256 : Int) ^ r.length = B at *
      omega
theorem XR {s : RS} (h : byB s.b = true) {n : Nat} (hn : n ≤ 2) : 0 ≤ Wk n s ∧ Wk n s < 65536 := by
  have h1 := YM (Jh (QC n s)) (QK.1 (Jdh h n)).2
  have h2 : (Jh (QC n s)).length ≤ 2 := by rw [QX]; exact Nat.le_trans (Z3 n s) hn
  have h3 : (256 : Int) ^ (Jh (QC n s)).length ≤ 65536 := by
    generalize (Jh (QC n s)).length = m at *
    match m, h2 with
    | 0, _ => decide
    | 1, _ => decide
    | 2, _ => decide
  unfold Wk
  rw [wrap_i64 (by omega) (by omega)]; omega
structure RT where
  B : List PV
  P : Int
  e : Int
def RT.view (t : RT) : RS := ⟨t.B.drop t.P.toNat, t.e⟩
def okT (t : RT) : Bool := decide (0 ≤ t.P) && (decide (t.P ≤ (t.B.length : Int)) && (byB t.B && Nat.ble t.B.length 1000000000))
def XS (n : Nat) (t : RT) : RT := bif YL n t.view then ⟨t.B, ((t.P.toNat + n : Nat) : Int), 0⟩ else ⟨t.B, t.P, bif t.e == 0 then 8 else t.e⟩
noncomputable def JhO : Nat → RT → RT := hid XS
noncomputable def Jrh : Nat → RT → Int := hid fun n t => Wk n t.view
def JeS (t : RT) : RT := XS (Wk 2 t.view).toNat (XS 2 t)
noncomputable def JmK : RT → RT := hid JeS
noncomputable def Jkj : RT → ByteArray := hid fun t => JeR t.view
theorem JeT (n : Nat) (t : RT) : JhO n t = XS n t := by rw [JhO, hid_eq]
theorem JmL (n : Nat) (t : RT) : Jrh n t = Wk n t.view := by rw [Jrh, hid_eq]
theorem JhP (t : RT) : JmK t = JeS t := by rw [JmK, hid_eq]
theorem Jkk (t : RT) : Jkj t = JeR t.view := by rw [Jkj, hid_eq]
theorem Gp (n : Nat) (t : RT) : (XS n t).view = Qg n t.view := by
  unfold XS Qg
  cases YL n t.view with
  | true => simp only [cond_true, RT.view, Int.toNat_natCast, List.drop_drop]
  | false => simp only [cond_false, RT.view]
theorem Jkl (t : RT) : (JeS t).view = JeQ t.view := by simp only [JeS, JeQ, Gp]
@[simp] theorem Jud (n : Nat) (t : RT) : Jrh n t = JC n t.view := by rw [JmL, W2]
@[simp] theorem Jri (n : Nat) (t : RT) : (JhO n t).view = Jc n t.view := by rw [JeT, WT, Gp]
@[simp] theorem JtK (t : RT) : (JmK t).view = J5 t.view := by rw [JhP, Jaq, Jkl]
@[simp] theorem JtL (t : RT) : Jkj t = JS t.view := by rw [Jkk, Jar]
theorem VE {t : RT} (h : okT t = true) (n : Nat) : okT (XS n t) = true := by
  have h' := h
  simp only [okT, Bool.and_eq_true, decide_eq_true_eq, Nat.ble_eq] at h ⊢
  unfold XS
  cases hk : YL n t.view with
  | true =>
    simp only [cond_true]
    have hn : n ≤ (t.B.drop t.P.toNat).length := by
      simp only [YL, RT.view, Bool.and_eq_true, Nat.ble_eq] at hk; exact hk.2
    rw [List.length_drop] at hn
    refine ⟨by omega, by omega, h.2.2⟩
  | false => exact h
theorem JmM {t : RT} (h : okT t = true) : okT (JeS t) = true := VE (VE h _) _
@[simp] theorem JtM {t : RT} (h : okT t = true) (n : Nat) : okT (JhO n t) = true := by rw [JeT]; exact VE h n
@[simp] theorem Jue {t : RT} (h : okT t = true) : okT (JmK t) = true := by rw [JhP]; exact JmM h
-- FN (*code.Reader).take
abbrev rdP (z f : Bool) (s : RS) : Ent := .box false 186 (.st 186 [.ro 5 z f s.b, .sc (.int .i64 s.e)])
noncomputable def Jdi : List PV → List Ent → (Res → Option Res) → Option Res
  | [.ptr 0 [], .sc (.int .i64 n)], [.box false 186 (.st 186 [.ro 5 z f b, .sc (.int .i64 e)])], k =>
    bif (!z || f) && decide (0 ≤ n) then k ⟨.ro 5 (!okS n.toNat ⟨b, e⟩ || z) (!okS n.toNat ⟨b, e⟩ || z) (JeP n.toNat ⟨b, e⟩), [rdP z f (Jc n.toNat ⟨b, e⟩)], []⟩ else none
  | _, _, _ => none
noncomputable def Jkm : Sig := { own := [], run := Jdi }
theorem JmN (z f : Bool) (b : List PV) (e n : Int) (hz : (!z || f) = true) (hn : 0 ≤ n) (k : Res → Option Res) :
    JmJ 0 z f b e n k = k ⟨.ro 5 (!okS n.toNat ⟨b, e⟩ || z) (!okS n.toNat ⟨b, e⟩ || z) (JeP n.toNat ⟨b, e⟩), [rdP z f (Jc n.toNat ⟨b, e⟩)], []⟩ := by
  rw [Jrg, Jdg, WT]
  have hzf : (z || f) = f := by cases z <;> cases f <;> simp_all
  have hz2 : (z || f && false) = z := by cases z <;> cases f <;> rfl
  unfold JmJ
  by_cases c1 : n > zi b.length
  · have hk : Nat.ble n.toNat b.length = false := by
      cases h : Nat.ble n.toNat b.length with
      | false => rfl
      | true => rw [Nat.ble_eq] at h; simp only [zi] at c1; omega
    rw [Jb (by simpa using c1)]
    by_cases c2 : e = 0
    · subst c2
      simp only [beq_self_eq_true, cond_true]
      simp [YL, QC, Qg, hk]
    · have hb : (e == 0) = false := by simpa using c2
      have hb2 : (e != 0) = true := by simpa using c2
      simp only [hb, hb2, cond_true, cond_false]
      simp [YL, QC, Qg, hb]
  · rw [Jx (by simpa using c1)]
    by_cases c2 : e = 0
    · subst c2
      have hk : Nat.ble n.toNat b.length = true := by rw [Nat.ble_eq]; simp only [zi] at c1; omega
      have hk' : n.toNat ≤ b.length := by rw [Nat.ble_eq] at hk; exact hk
      have h00 : ((0 : Int) != 0) = false := by decide
      simp only [h00, cond_false]
      rw [Jb (by simp; omega), Jb (by simp; omega)]
      simp [YL, QC, Qg, hk, hzf, hz2]
    · have hb : (e == 0) = false := by simpa using c2
      have hb2 : (e != 0) = true := by simpa using c2
      simp only [hb2, cond_true]
      simp [YL, QC, Qg, hb]
theorem Jkn : Jk tau Try.prog 156 Jkm := Juc.of fun xs es k res hr => by
  change Jdi xs es k = some res at hr
  unfold Jdi at hr
  split at hr
  · obtain ⟨hc, hr⟩ := JL hr
    simp only [Bool.and_eq_true, decide_eq_true_eq] at hc
    exact (JmN _ _ _ _ _ hc.1 hc.2 _).trans hr
  · cases hr
def JbK : Nat := 27
noncomputable def Jko : Fns := JH 156 Jkm (F0)
theorem JhQ : JA tau Try.prog Jko := (JJ).add Jkn Jo3
noncomputable def Gq : Code := Qy (Try.f155.body.get!) [1, 1, 0, 1, 0, 0]
def Wt : Nm := [(5, .any), (10, .any), (11, .any), (12, .any)]
def W3 : Nm := [(5, .any)]
def Ja4 : An := (.seq .leaf (.seq (.cond .leaf .leaf) (.seq (.block none (.seq .leaf .leaf)) .leaf)))
def JhR (r0 : Q6) : An := (.seq .leaf (.seq .leaf (.seq (.seq .leaf (.block none (.sum Wt JbK r0))) (.seq .leaf .leaf))))
noncomputable def YN (f : Nat) (rc : Int → Bool → Bool → List PV → Int → Int → Bool → Bool → List PV → Int → Option Res) (k0 : Int → Bool → Bool → List PV → Int → Option Res) (v0 : Int) (v1 : Bool) (v2 : Bool) (v3 : List PV) (v4 : Int) (v5 : Int) (v6 : Bool) (v7 : Bool) (v8 : List PV) (v9 : Int) : Option Res := bif decide (v5 < v4) then bif decide (0 ≤ v5) && decide (v5 < zi v3.length) && PV.isInt IntKind.u8 (v3.getD v5.toNat PV.top) && true then bif decide (0 ≤ IntKind.i64.wrap (8 * v5)) && true then rc (JE BinOp.or IntKind.u64 v0 (Xk IntKind.u64 (IntKind.u64.wrap (v3.getD v5.toNat PV.top).int) (IntKind.i64.wrap (8 * v5)))) v1 v2 v3 v4 (IntKind.i64.wrap (v5 + 1)) v6 v7 v8 v9 else none else none else k0 v0 v6 v7 v8 v9
noncomputable def XT (f : Nat) (k0 : Int → Bool → Bool → List PV → Int → Option Res) : Nat → Int → Bool → Bool → List PV → Int → Int → Bool → Bool → List PV → Int → Option Res
  | 0, _, _, _, _, _, _, _, _, _, _ => none
  | n + 1, v0, v1, v2, v3, v4, v5, v6, v7, v8, v9 => YN f (XT f k0 n) k0 v0 v1 v2 v3 v4 v5 v6 v7 v8 v9
theorem Jkp (f : Nat) (k : Kont) (n : Nat) (v0 : Int) (v1 : Bool) (v2 : Bool) (v3 : List PV) (v4 : Int) (v5 : Int) (v6 : Bool) (v7 : Bool) (v8 : List PV) (v9 : Int) : Jq tau 1 Wt (fun s k => ev tau Jko 1 0 Gq (Ja4 ) s k) (n + 1) (Je Wt JbK [.sc (.int .u64 v0), .ro 5 v1 v2 v3, .sc (.int .i64 v4), .sc (.int .i64 v5)] [(0, .box false 186 (PV.st 186 [.ro 5 v6 v7 v8, .sc (.int .i64 v9)]))]) (Jz tau 1 W3 k) = YN f (fun v0 v1 v2 v3 v4 v5 v6 v7 v8 v9 => Jq tau 1 Wt (fun s k => ev tau Jko 1 0 Gq (Ja4 ) s k) n (Je Wt JbK [.sc (.int .u64 v0), .ro 5 v1 v2 v3, .sc (.int .i64 v4), .sc (.int .i64 v5)] [(0, .box false 186 (PV.st 186 [.ro 5 v6 v7 v8, .sc (.int .i64 v9)]))]) (Jz tau 1 W3 k)) (fun x0 x1 x2 x3 x4 => k (Ex.exit 0) (Je W3 JbK [.sc (.int .u64 x0)] [(0, .box false 186 (PV.st 186 [.ro 5 x1 x2 x3, .sc (.int .i64 x4)]))])) v0 v1 v2 v3 v4 v5 v6 v7 v8 v9 := by kernel_rfl
theorem JeU (f : Nat) (k : Kont) : ∀ (n : Nat) (v0 : Int) (v1 : Bool) (v2 : Bool) (v3 : List PV) (v4 : Int) (v5 : Int) (v6 : Bool) (v7 : Bool) (v8 : List PV) (v9 : Int), Jq tau 1 Wt (fun s k => ev tau Jko 1 0 Gq (Ja4 ) s k) n (Je Wt JbK [.sc (.int .u64 v0), .ro 5 v1 v2 v3, .sc (.int .i64 v4), .sc (.int .i64 v5)] [(0, .box false 186 (PV.st 186 [.ro 5 v6 v7 v8, .sc (.int .i64 v9)]))]) (Jz tau 1 W3 k) = XT f (fun x0 x1 x2 x3 x4 => k (Ex.exit 0) (Je W3 JbK [.sc (.int .u64 x0)] [(0, .box false 186 (PV.st 186 [.ro 5 x1 x2 x3, .sc (.int .i64 x4)]))])) n v0 v1 v2 v3 v4 v5 v6 v7 v8 v9 | 0, _, _, _, _, _, _, _, _, _, _ => rfl | n + 1, v0, v1, v2, v3, v4, v5, v6, v7, v8, v9 => (Jkp f k n v0 v1 v2 v3 v4 v5 v6 v7 v8 v9).trans (congrArg (fun r => YN f r (fun x0 x1 x2 x3 x4 => k (Ex.exit 0) (Je W3 JbK [.sc (.int .u64 x0)] [(0, .box false 186 (PV.st 186 [.ro 5 x1 x2 x3, .sc (.int .i64 x4)]))])) v0 v1 v2 v3 v4 v5 v6 v7 v8 v9) (by funext v0 v1 v2 v3 v4 v5 v6 v7 v8 v9; exact JeU f k n v0 v1 v2 v3 v4 v5 v6 v7 v8 v9))
noncomputable def Z4 (f : Nat) : List PV → List (Nat × Ent) → Kont → Option Res
  | [.sc (.int .u64 v0), .ro 5 v1 v2 v3, .sc (.int .i64 v4),
  PV.sc
    (Value.int IntKind.i64
      v5)], [(0,
    Ent.box false 186
      (PV.st 186
        [.ro 5 v6 v7 v8,
          PV.sc
            (Value.int IntKind.i64
              v9)]))], k => XT f (fun x0 x1 x2 x3 x4 => k (Ex.exit
  0) (Je W3 JbK [.sc (.int .u64 x0)] [(0, .box false 186 (PV.st 186 [.ro 5 x1 x2 x3, .sc (.int .i64 x4)]))])) f v0 v1 v2 v3 v4 v5 v6 v7 v8 v9
  | _, _, _ => none
theorem JmO (f : Nat) : Ji Gq Ja4 = [] := by kernel_rfl
theorem Jrj (f : Nat) : (Item.l Gq Wt JbK (Z4 f)).Ok tau Try.prog 1 := JM Js JhQ Jt (x := Ja4) (nm2 := W3) (Jr _ _ (by rw [JmO f]; intro q hq; cases hq)) fun vs hp k res hr => by
  unfold Z4 at hr
  split at hr
  · exact ⟨f, 0, (JeU f _ f _ _ _ _ _ _ _ _ _ _ ).trans hr⟩
  · cases hr
noncomputable def Jrk (f : Nat) (r_b_z : Bool) (r_b_f : Bool) (r_b : List PV) (r_e : Int) (n : Int) (k : Res → Option Res) : Option Res := bif (!r_b_z || r_b_f) && decide (0 ≤ n) then XT f (fun x0_0 x1_0 x2_0 x3_0 x4_0 => k (Res.mk (.sc (.int .i64 (IntKind.i64.wrap x0_0))) [.box false 186 (PV.st 186 [.ro 5 x1_0 x2_0 x3_0, .sc (.int .i64 x4_0)])] [])) f (0) (!okS n.toNat (RS.mk r_b r_e) || r_b_z) (!okS n.toNat (RS.mk r_b r_e) || r_b_z) (JeP n.toNat (RS.mk r_b r_e)) (zi (JeP n.toNat (RS.mk r_b r_e)).length) (0) r_b_z r_b_f ((Jc n.toNat (RS.mk r_b r_e)).b) ((Jc n.toNat (RS.mk r_b r_e)).e) else none
theorem Jzd (f : Nat) (r_b_z : Bool) (r_b_f : Bool) (r_b : List PV) (r_e : Int) (n : Int) (k : Res → Option Res) : JN tau Jko Try.f155 (Try.f155.body.get!) (JhR (Z4 f)) [.ro] 0 [.ptr 0 [], .sc (.int .i64 n)] [.box false 186 (.st 186 [.ro 5 r_b_z r_b_f r_b, .sc (.int .i64 r_e)])] k = Jrk f r_b_z r_b_f r_b r_e n k := by kernel_rfl
theorem Juf (f : Nat) : Ji (Try.f155.body.get!) (JhR (Z4 f)) = [.l Gq Wt JbK (Z4 f)] := by kernel_rfl
theorem Jug (f : Nat) : ∀ q ∈ Ji (Try.f155.body.get!) (JhR (Z4 f)), q.Ok tau Try.prog 1 := by
  rw [Juf f]; simp only [List.forall_mem_cons, List.not_mem_nil, false_implies, implies_true, and_true]; exact Jrj f
theorem Jo4 : Try.prog.funcs[155]? = some Try.f155 := by kernel_rfl
theorem Jo5 : Try.f155.body = some (Try.f155.body.get!) := by kernel_rfl
theorem Jkq : Enters Try.prog 155 := enters_of Jo4 (by kernel_rfl) Jo5
-- FN (*code.Reader).number
theorem Jcg : ∀ (l : List Int) (x : Int), Xl (l ++ [x]) = Xl l + x * 256 ^ l.length
  | [], x => by simp [Xl]
  | y :: r, x => by
      simp only [List.cons_append, Xl, Jcg r x, List.length_cons, Int.pow_succ]
      have : x * (256 ^ r.length * 256) = 256 * (x * 256 ^ r.length) := by rw [Int.mul_comm 256, Int.mul_assoc]
      omega
theorem Jkr (i : Nat) : (256 : Int) ^ i = 2 ^ (8 * i) := by rw [Int.pow_mul]; rfl
theorem Jks {v y : Int} {j : Nat} (hj : j ≤ 64) (hv0 : 0 ≤ v) (hv : v < 2 ^ j) (hy0 : 0 ≤ y) (hy : y * 2 ^ j < 2 ^ 64) : JE .or .u64 v (y * 2 ^ j) = v + y * 2 ^ j := by
  obtain ⟨a, rfl⟩ := Int.eq_ofNat_of_zero_le hv0
  obtain ⟨b, rfl⟩ := Int.eq_ofNat_of_zero_le hy0
  have e1 : ((b : Int)) * 2 ^ j = ((b * 2 ^ j : Nat) : Int) := by rw [Int.natCast_mul, Int.natCast_pow]; rfl
  have e2 : ((2 : Int)) ^ j = ((2 ^ j : Nat) : Int) := by rw [Int.natCast_pow]; rfl
  have e3 : ((2 : Int)) ^ 64 = ((2 ^ 64 : Nat) : Int) := by rw [Int.natCast_pow]; rfl
  rw [e2] at hv
  rw [e1, e3] at hy
  have ha : a < 2 ^ j := Int.ofNat_lt.1 hv
  have hb : b * 2 ^ j < 2 ^ 64 := Int.ofNat_lt.1 hy
  rw [e1]
  have hor : a ||| b * 2 ^ j = a + b * 2 ^ j := by
    have h := Nat.shiftLeft_add_eq_or_of_lt ha b
    rw [Nat.shiftLeft_eq] at h
    rw [Nat.or_comm, ← h, Nat.add_comm]
  have ha2 : a < 2 ^ 64 := Nat.lt_of_lt_of_le ha (Nat.pow_le_pow_right (by omega) hj)
  have hsum : a + b * 2 ^ j < 2 ^ 64 := by rw [← hor]; exact Nat.or_lt_two_pow ha2 hb
  generalize hc : b * 2 ^ j = c at *
  have ht : (BitVec.ofInt 64 (a : Int) ||| BitVec.ofInt 64 (c : Int)).toNat = a + c := by
    rw [BitVec.toNat_or, BitVec.ofInt_natCast, BitVec.ofInt_natCast, BitVec.toNat_ofNat, BitVec.toNat_ofNat, Nat.mod_eq_of_lt ha2, Nat.mod_eq_of_lt hb, hor]
  show IntKind.u64.wrap ((BitVec.ofInt 64 (a : Int) ||| BitVec.ofInt 64 (c : Int)).toNat : Int) = _
  rw [ht, QY]
  have h64 : (2 : Nat) ^ 64 = 18446744073709551616 := by decide
  rw [h64] at hsum
  omega
theorem Jkt {x : Int} (h0 : 0 ≤ x) (h1 : x < 256) {i : Nat} (hi : i < 8) : Xk .u64 (IntKind.u64.wrap x) (8 * (i : Int)) = x * 2 ^ (8 * i) := by
  rw [QY, Int.emod_eq_of_lt h0 (by omega), Xk, QY]
  have : min (8 * (i : Int)).toNat IntKind.u64.bits = 8 * i := by
    have : IntKind.u64.bits = 64 := rfl
    rw [this]; omega
  rw [this]
  have hp : (2 : Int) ^ (8 * i) ≤ 2 ^ 56 := by
    have h : (2 ^ (8 * i) : Nat) ≤ 2 ^ 56 := Nat.pow_le_pow_right (by omega) (by omega)
    have e2 : ((2 : Int)) ^ (8 * i) = ((2 ^ (8 * i) : Nat) : Int) := by rw [Int.natCast_pow]; rfl
    have e3 : ((2 : Int)) ^ 56 = ((2 ^ 56 : Nat) : Int) := by rw [Int.natCast_pow]; rfl
    rw [e2, e3]; exact Int.ofNat_le.2 h
  have hp0 : (0 : Int) ≤ 2 ^ (8 * i) := Int.le_of_lt (by have e2 : ((2 : Int)) ^ (8 * i) = ((2 ^ (8 * i) : Nat) : Int) := by rw [Int.natCast_pow]; rfl
                                                         rw [e2]; exact Int.ofNat_lt.2 (Nat.two_pow_pos _))
  have h56 : (2 : Int) ^ 56 = 72057594037927936 := by decide
  rw [h56] at hp
  have hm : x * 2 ^ (8 * i) ≤ 255 * 2 ^ (8 * i) := Int.mul_le_mul_of_nonneg_right (by omega) hp0
  have hm0 : 0 ≤ x * 2 ^ (8 * i) := Int.mul_nonneg h0 hp0
  exact Int.emod_eq_of_lt hm0 (by omega)
theorem Jku (L : List Int) (hL : ∀ x ∈ L, 0 ≤ x ∧ x < 256) (h8 : L.length ≤ 8) (f : Nat) (k0 : Int → Bool → Bool → List PV → Int → Option Res) (a b c d : Bool) (R : List PV) (e : Int) : ∀ (dd i n : Nat), i + dd = L.length → dd < n →
    XT f k0 n (Xl (L.take i)) a b (pu .u8 L) (L.length : Int) (i : Int) c d R e = k0 (Xl L) c d R e
  | 0, i, n + 1, h, hn => by
      obtain rfl : i = L.length := by omega
      simp only [XT, YN, List.take_length]
      exact Jx (by simp)
  | dd + 1, i, n + 1, h, hn => by
      have g1 : ((i : Int)).toNat = i := by omega
      have h1 : IntKind.i64.wrap ((i : Int) + 1) = ((i + 1 : Nat) : Int) := by rw [wrap_i64 (by omega) (by omega)]; omega
      have h2 : IntKind.i64.wrap (8 * (i : Int)) = 8 * (i : Int) := wrap_i64 (by omega) (by omega)
      have hi : i < L.length := by omega
      have hx := hL (L.getD i 0) (by rw [List.getD_eq_getElem?_getD, List.getElem?_eq_getElem hi]; exact List.getElem_mem hi)
      simp only [XT, YN, g1, h1, h2]
      rw [JY hi, Qn hi]
      refine (Jb (by simp; omega)).trans ((Jb (by simp [zi]; omega)).trans ((Jb (by simp; omega)).trans ?_))
      have ht : L.take (i + 1) = L.take i ++ [L.getD i 0] := by
        rw [List.take_add_one, List.getD_eq_getElem?_getD, List.getElem?_eq_getElem hi]; rfl
      have hb := YM (L.take i) fun x hx => hL x (List.mem_of_mem_take hx)
      have hlen : (L.take i).length = i := by rw [List.length_take]; omega
      rw [hlen, Jkr] at hb
      have hs := Jkt hx.1 hx.2 (i := i) (by omega)
      have hlt : L.getD i 0 * 2 ^ (8 * i) < 2 ^ 64 := by
        have hp : (2 : Int) ^ (8 * i) ≤ 2 ^ 56 := by
          have h : (2 ^ (8 * i) : Nat) ≤ 2 ^ 56 := Nat.pow_le_pow_right (by omega) (by omega)
          have e2 : ((2 : Int)) ^ (8 * i) = ((2 ^ (8 * i) : Nat) : Int) := by rw [Int.natCast_pow]; rfl
          have e3 : ((2 : Int)) ^ 56 = ((2 ^ 56 : Nat) : Int) := by rw [Int.natCast_pow]; rfl
          rw [e2, e3]; exact Int.ofNat_le.2 h
        have hp0 : (0 : Int) ≤ 2 ^ (8 * i) := by omega
        have h56 : (2 : Int) ^ 56 = 72057594037927936 := by decide
        have h64 : (2 : Int) ^ 64 = 18446744073709551616 := by decide
        rw [h56] at hp; rw [h64]
        have hm : L.getD i 0 * 2 ^ (8 * i) ≤ 255 * 2 ^ (8 * i) := Int.mul_le_mul_of_nonneg_right (by omega) hp0
        omega
      rw [hs, Jks (by omega) hb.1 hb.2 hx.1 hlt]
      have hn1 : Xl (L.take i) + L.getD i 0 * 2 ^ (8 * i) = Xl (L.take (i + 1)) := by
        rw [ht, Jcg, hlen, Jkr]
      rw [hn1]
      exact Jku L hL h8 f k0 a b c d R e dd (i + 1) n (by omega) (by omega)
noncomputable def Jdj : List PV → List Ent → (Res → Option Res) → Option Res
  | [.ptr 0 [], .sc (.int .i64 n)], [.box false 186 (.st 186 [.ro 5 z f b, .sc (.int .i64 e)])], k =>
    bif (!z || f) && (decide (0 ≤ n) && decide (n ≤ 8)) && byB b then k ⟨.sc (.int .i64 (JC n.toNat ⟨b, e⟩)), [rdP z f (Jc n.toNat ⟨b, e⟩)], []⟩ else none
  | _, _, _ => none
noncomputable def JhS : Sig := { own := [], run := Jdj }
theorem JmP (z f : Bool) (b : List PV) (e n : Int) (hz : (!z || f) = true) (hn : 0 ≤ n) (hn8 : n ≤ 8) (hb : byB b = true) (k : Res → Option Res) :
    Jrk 20 z f b e n k = k ⟨.sc (.int .i64 (JC n.toNat ⟨b, e⟩)), [rdP z f (Jc n.toNat ⟨b, e⟩)], []⟩ := by
  unfold Jrk
  rw [Jb (by rw [hz]; simpa using hn), W2, Jdg]
  have ho : byB (QC n.toNat ⟨b, e⟩) = true := Jdh hb _
  have hoi := QK.1 ho
  have hl : (Jh (QC n.toNat ⟨b, e⟩)).length ≤ 8 := by rw [QX]; exact Nat.le_trans (Z3 _ _) (by omega)
  have hL := Jku (Jh (QC n.toNat ⟨b, e⟩)) hoi.2 hl 20 (fun x0_0 x1_0 x2_0 x3_0 x4_0 => k (Res.mk (.sc (.int .i64 (IntKind.i64.wrap x0_0))) [.box false 186 (.st 186 [.ro 5 x1_0 x2_0 x3_0, .sc (.int .i64 x4_0)])] [])) (!okS n.toNat ⟨b, e⟩ || z) (!okS n.toNat ⟨b, e⟩ || z) z f (Jc n.toNat ⟨b, e⟩).b (Jc n.toNat ⟨b, e⟩).e (Jh (QC n.toNat ⟨b, e⟩)).length 0 20 (by omega) (by omega)
  rw [← Qb hoi.1, QX] at hL
  simp only [List.take_zero, Xl] at hL
  exact hL
theorem Jgs : Jk tau Try.prog 155 JhS := Jk.mk' fun xs es k res hl hr => by
  change Jdj xs es k = some res at hr
  unfold Jdj at hr
  split at hr
  · rename_i n z f b e
    obtain ⟨hc, hr⟩ := JL hr
    simp only [Bool.and_eq_true, decide_eq_true_eq] at hc
    exact Qp Js JhQ Jt Jo4 Jo5 (JhR (Z4 20)) [.ro] 1 0 (Jug 20) hl rfl ((Jzd 20 z f b e n k).trans ((JmP z f b e n hc.1.1 hc.1.2.1 hc.1.2.2 hc.2 k).trans hr))
  · cases hr
noncomputable def Juh : Fns := JH 155 JhS (F0)
theorem JmQ : JA tau Try.prog Juh := (JJ).add Jgs Jkq
def JhT : An := (.seq .leaf (.seq .leaf .leaf))
noncomputable def Jui (f : Nat) (r_b_z : Bool) (r_b_f : Bool) (r_b : List PV) (r_e : Int) (k : Res → Option Res) : Option Res := bif (!r_b_z || r_b_f) && true && byB r_b then k (Res.mk (.sc (.int .i64 (JC 8 (RS.mk r_b r_e)))) [.box false 186 (PV.st 186 [.ro 5 r_b_z r_b_f (Jc 8 (RS.mk r_b r_e)).b, .sc (.int .i64 (Jc 8 (RS.mk r_b r_e)).e)])] []) else none
theorem Jze (f : Nat) (r_b_z : Bool) (r_b_f : Bool) (r_b : List PV) (r_e : Int) (k : Res → Option Res) : JN tau Juh Try.f132 (Try.f132.body.get!) JhT [.ro] 0 [.ptr 0 []] [.box false 186 (.st 186 [.ro 5 r_b_z r_b_f r_b, .sc (.int .i64 r_e)])] k = Jui f r_b_z r_b_f r_b r_e k := by kernel_rfl
theorem Juj (f : Nat) : Ji (Try.f132.body.get!) JhT = [] := by kernel_rfl
theorem Juk (f : Nat) : ∀ q ∈ Ji (Try.f132.body.get!) JhT, q.Ok tau Try.prog 1 := by
  rw [Juj f]; intro q hq; cases hq
theorem Jo6 : Try.prog.funcs[132]? = some Try.f132 := by kernel_rfl
theorem Jo7 : Try.f132.body = some (Try.f132.body.get!) := by kernel_rfl
theorem Jo8 : Enters Try.prog 132 := enters_of Jo6 (by kernel_rfl) Jo7
noncomputable def Jgt : List PV → List Ent → (Res → Option Res) → Option Res
  | [.ptr 0 []], [.box false 186 (.st 186 [.ro 5 r_b_z r_b_f r_b, .sc (.int .i64 r_e)])], k => Jui 0 r_b_z r_b_f r_b r_e k
  | _, _, _ => none
noncomputable def Jrl : Sig := { own := [], run := Jgt }
theorem Jo9 : Jk tau Try.prog 132 Jrl := JV Js JmQ Jt Jo6 Jo7 JhT [.ro] 1 [] Jgt (Juk 0) fun xs es k res hr => by
  unfold Jgt at hr
  split at hr
  · exact ⟨rfl, 0, (Jze 0 _ _ _ _  _).trans hr⟩
  · cases hr
noncomputable def Jul : Fns := JH 155 JhS (F0)
theorem JmR : JA tau Try.prog Jul := (JJ).add Jgs Jkq
def JhU : An := (.seq .leaf (.seq .leaf .leaf))
noncomputable def Jum (f : Nat) (r_b_z : Bool) (r_b_f : Bool) (r_b : List PV) (r_e : Int) (k : Res → Option Res) : Option Res := bif (!r_b_z || r_b_f) && true && byB r_b then k (Res.mk (.sc (.int .i64 (JC 1 (RS.mk r_b r_e)))) [.box false 186 (PV.st 186 [.ro 5 r_b_z r_b_f (Jc 1 (RS.mk r_b r_e)).b, .sc (.int .i64 (Jc 1 (RS.mk r_b r_e)).e)])] []) else none
theorem Jzf (f : Nat) (r_b_z : Bool) (r_b_f : Bool) (r_b : List PV) (r_e : Int) (k : Res → Option Res) : JN tau Jul Try.f133 (Try.f133.body.get!) JhU [.ro] 0 [.ptr 0 []] [.box false 186 (.st 186 [.ro 5 r_b_z r_b_f r_b, .sc (.int .i64 r_e)])] k = Jum f r_b_z r_b_f r_b r_e k := by kernel_rfl
theorem Jun (f : Nat) : Ji (Try.f133.body.get!) JhU = [] := by kernel_rfl
theorem Juo (f : Nat) : ∀ q ∈ Ji (Try.f133.body.get!) JhU, q.Ok tau Try.prog 1 := by
  rw [Jun f]; intro q hq; cases hq
theorem Jpa : Try.prog.funcs[133]? = some Try.f133 := by kernel_rfl
theorem Jpb : Try.f133.body = some (Try.f133.body.get!) := by kernel_rfl
theorem Jpc : Enters Try.prog 133 := enters_of Jpa (by kernel_rfl) Jpb
noncomputable def Jgu : List PV → List Ent → (Res → Option Res) → Option Res
  | [.ptr 0 []], [.box false 186 (.st 186 [.ro 5 r_b_z r_b_f r_b, .sc (.int .i64 r_e)])], k => Jum 0 r_b_z r_b_f r_b r_e k
  | _, _, _ => none
noncomputable def Jrm : Sig := { own := [], run := Jgu }
theorem Jpd : Jk tau Try.prog 133 Jrm := JV Js JmR Jt Jpa Jpb JhU [.ro] 1 [] Jgu (Juo 0) fun xs es k res hr => by
  unfold Jgu at hr
  split at hr
  · exact ⟨rfl, 0, (Jzf 0 _ _ _ _  _).trans hr⟩
  · cases hr
noncomputable def Jup : Fns := JH 156 Jkm (JH 155 JhS (F0))
theorem JmS : JA tau Try.prog Jup := ((JJ).add Jgs Jkq).add Jkn Jo3
def JhV : An := (.seq .leaf (.seq .leaf (.seq .leaf .leaf)))
noncomputable def JmT (f : Nat) (r_b_z : Bool) (r_b_f : Bool) (r_b : List PV) (r_e : Int) (k : Res → Option Res) : Option Res := bif (!r_b_z || r_b_f) && true && byB r_b then bif (!r_b_z || r_b_f) && decide (0 ≤ JC 2 (RS.mk r_b r_e)) then bif Jd IntKind.u8 (JeP (JC 2 (RS.mk r_b r_e)).toNat (Jc 2 (RS.mk r_b r_e))) && true then k (Res.mk (.sc (.string (ByteArray.mk (Array.mk (Jl (!okS (JC 2 (RS.mk r_b r_e)).toNat (RS.mk (Jc 2 (RS.mk r_b r_e)).b (Jc 2 (RS.mk r_b r_e)).e) || r_b_z, JeP (JC 2 (RS.mk r_b r_e)).toNat (Jc 2 (RS.mk r_b r_e))).snd))))) [.box false 186 (PV.st 186 [.ro 5 r_b_z r_b_f (Jc (JC 2 (RS.mk r_b r_e)).toNat (Jc 2 (RS.mk r_b r_e))).b, .sc (.int .i64 (Jc (JC 2 (RS.mk r_b r_e)).toNat (Jc 2 (RS.mk r_b r_e))).e)])] []) else none else none else none
theorem Jzg (f : Nat) (r_b_z : Bool) (r_b_f : Bool) (r_b : List PV) (r_e : Int) (k : Res → Option Res) : JN tau Jup Try.f135 (Try.f135.body.get!) JhV [.ro] 0 [.ptr 0 []] [.box false 186 (.st 186 [.ro 5 r_b_z r_b_f r_b, .sc (.int .i64 r_e)])] k = JmT f r_b_z r_b_f r_b r_e k := by kernel_rfl
theorem Juq (f : Nat) : Ji (Try.f135.body.get!) JhV = [] := by kernel_rfl
theorem Jur (f : Nat) : ∀ q ∈ Ji (Try.f135.body.get!) JhV, q.Ok tau Try.prog 1 := by
  rw [Juq f]; intro q hq; cases hq
theorem Jpe : Try.prog.funcs[135]? = some Try.f135 := by kernel_rfl
theorem Jpf : Try.f135.body = some (Try.f135.body.get!) := by kernel_rfl
theorem Jpg : Enters Try.prog 135 := enters_of Jpe (by kernel_rfl) Jpf
noncomputable def Jgv : List PV → List Ent → (Res → Option Res) → Option Res
  | [.ptr 0 []], [.box false 186 (.st 186 [.ro 5 r_b_z r_b_f r_b, .sc (.int .i64 r_e)])], k => JmT 0 r_b_z r_b_f r_b r_e k
  | _, _, _ => none
noncomputable def Jzh : Sig := { own := [], run := Jgv }
theorem Jus : Jk tau Try.prog 135 Jzh := JV Js JmS Jt Jpe Jpf JhV [.ro] 1 [] Jgv (Jur 0) fun xs es k res hr => by
  unfold Jgv at hr
  split at hr
  · exact ⟨rfl, 0, (Jzg 0 _ _ _ _  _).trans hr⟩
  · cases hr
-- FN (*code.Reader).Text
noncomputable def Jdk : List PV → List Ent → (Res → Option Res) → Option Res
  | [.ptr 0 []], [.box false 186 (.st 186 [.ro 5 z f b, .sc (.int .i64 e)])], k =>
    bif (!z || f) && byB b then k ⟨.sc (.string (JS ⟨b, e⟩)), [rdP z f (J5 ⟨b, e⟩)], []⟩ else none
  | _, _, _ => none
noncomputable def Jkv : Sig := { own := [], run := Jdk }
theorem Jkw : Jk tau Try.prog 135 Jkv := Jus.of fun xs es k res hr => by
  change Jdk xs es k = some res at hr
  unfold Jdk at hr
  split at hr
  · rename_i z f b e
    obtain ⟨hc, hr⟩ := JL hr
    simp only [Bool.and_eq_true] at hc
    show JmT 0 z f b e k = some res
    have hn := (XR (s := ⟨b, e⟩) hc.2 (n := 2) (by omega)).1
    have ho := (QK.1 (Jdh (s := Qg 2 ⟨b, e⟩) (Xy (s := ⟨b, e⟩) hc.2 2) (Wk 2 ⟨b, e⟩).toNat)).1
    unfold JmT
    simp only [W2, WT, Jdg]
    rw [Jb (by rw [hc.1, hc.2]; rfl), Jb (by rw [hc.1]; simpa using hn), Jb (by rw [ho]; rfl)]
    rw [Jar, Jaq] at hr
    exact hr
  · cases hr




-- FN (*ref1.Reader).take



-- FN (*ref1.Reader).Int | (*ref1.Reader).Byte | (*ref1.Reader).Text

noncomputable def Jut : Fns := F0
theorem JmU : JA tau Try.prog Jut := JJ
def JhW : An := (.seq .leaf (.seq .leaf (.seq .leaf .leaf)))
noncomputable def Juu (f : Nat) (x : Int) (k1 : Int) (k : Res → Option Res) : Option Res := bif decide (0 ≤ IntKind.u64.wrap (32 - JE BinOp.and IntKind.u64 (IntKind.u64.wrap k1) 31)) && true then k (Res.mk (.sc (.int .u32 (JE BinOp.or IntKind.u32 (Xk IntKind.u32 x (JE BinOp.and IntKind.u64 (IntKind.u64.wrap k1) 31)) (JB IntKind.u32 x (IntKind.u64.wrap (32 - JE BinOp.and IntKind.u64 (IntKind.u64.wrap k1) 31)))))) [] []) else none
theorem Jzi (f : Nat) (x : Int) (k1 : Int) (k : Res → Option Res) : JN tau Jut Try.f149 (Try.f149.body.get!) JhW [.ro] 0 [.sc (.int .u32 x), .sc (.int .i64 k1)] [] k = Juu f x k1 k := by kernel_rfl
theorem Juv (f : Nat) : Ji (Try.f149.body.get!) JhW = [] := by kernel_rfl
theorem Juw (f : Nat) : ∀ q ∈ Ji (Try.f149.body.get!) JhW, q.Ok tau Try.prog 0 := by
  rw [Juv f]; intro q hq; cases hq
theorem Jph : Try.prog.funcs[149]? = some Try.f149 := by kernel_rfl
theorem Jpi : Try.f149.body = some (Try.f149.body.get!) := by kernel_rfl
theorem Jux : Enters Try.prog 149 := enters_of Jph (by kernel_rfl) Jpi
noncomputable def Jgw : List PV → List Ent → (Res → Option Res) → Option Res
  | [.sc (.int .u32 x), .sc (.int .i64 k1)], [], k => Juu 0 x k1 k
  | _, _, _ => none
noncomputable def Juy : Sig := { own := [], run := Jgw }
theorem Juz : Jk tau Try.prog 149 Juy := JV Js JmU Jt Jph Jpi JhW [.ro] 0 [] Jgw (Juw 0) fun xs es k res hr => by
  unfold Jgw at hr
  split at hr
  · exact ⟨rfl, 0, (Jzi 0 _ _  _).trans hr⟩
  · cases hr
noncomputable def JuA : Fns := JH 149 Juy (F0)
theorem JmV : JA tau Try.prog JuA := (JJ).add Juz Jux
def JhX : An := (.seq .leaf (.seq .leaf .leaf))
noncomputable def JmW (f : Nat) (x : Int) (n : Int) (k : Res → Option Res) : Option Res := bif decide (0 ≤ IntKind.u64.wrap (32 - JE BinOp.and IntKind.u64 (IntKind.u64.wrap (IntKind.i64.wrap (0 - n))) 31)) && true then k (Res.mk (.sc (.int .u32 (JE BinOp.or IntKind.u32 (Xk IntKind.u32 x (JE BinOp.and IntKind.u64 (IntKind.u64.wrap (IntKind.i64.wrap (0 - n))) 31)) (JB IntKind.u32 x (IntKind.u64.wrap (32 - JE BinOp.and IntKind.u64 (IntKind.u64.wrap (IntKind.i64.wrap (0 - n))) 31)))))) [] []) else none
theorem Jzj (f : Nat) (x : Int) (n : Int) (k : Res → Option Res) : JN tau JuA Try.f124 (Try.f124.body.get!) JhX [.ro] 0 [.sc (.int .u32 x), .sc (.int .i64 n)] [] k = JmW f x n k := by kernel_rfl
theorem JuB (f : Nat) : Ji (Try.f124.body.get!) JhX = [] := by kernel_rfl
theorem JuC (f : Nat) : ∀ q ∈ Ji (Try.f124.body.get!) JhX, q.Ok tau Try.prog 0 := by
  rw [JuB f]; intro q hq; cases hq
theorem Jpj : Try.prog.funcs[124]? = some Try.f124 := by kernel_rfl
theorem Jpk : Try.f124.body = some (Try.f124.body.get!) := by kernel_rfl
theorem Jpl : Enters Try.prog 124 := enters_of Jpj (by kernel_rfl) Jpk
noncomputable def Jgx : List PV → List Ent → (Res → Option Res) → Option Res
  | [.sc (.int .u32 x), .sc (.int .i64 n)], [], k => JmW 0 x n k
  | _, _, _ => none
noncomputable def Jzk : Sig := { own := [], run := Jgx }
theorem JuD : Jk tau Try.prog 124 Jzk := JV Js JmV Jt Jpj Jpk JhX [.ro] 0 [] Jgx (JuC 0) fun xs es k res hr => by
  unfold Jgx at hr
  split at hr
  · exact ⟨rfl, 0, (Jzj 0 _ _  _).trans hr⟩
  · cases hr
noncomputable def F73 : Fns := F0
theorem Jrn : JA tau Try.prog F73 := JJ
def JmX : An := (.seq .leaf (.seq .leaf .leaf))
noncomputable def g73 (f : Nat) (x : Int) (n : Int) (k : Res → Option Res) : Option Res := bif decide (0 ≤ n) && true then bif decide (0 ≤ IntKind.u64.wrap (32 - n)) && true then k (Res.mk (.sc (.int .u32 (JE BinOp.or IntKind.u32 (JB IntKind.u32 x n) (Xk IntKind.u32 x (IntKind.u64.wrap (32 - n)))))) [] []) else none else none
theorem e73 (f : Nat) (x : Int) (n : Int) (k : Res → Option Res) : JN tau F73 Try.f73 (Try.f73.body.get!) JmX [.ro] 0 [.sc (.int .u32 x), .sc (.int .u64 n)] [] k = g73 f x n k := by kernel_rfl
theorem Jzl (f : Nat) : Ji (Try.f73.body.get!) JmX = [] := by kernel_rfl
theorem Jzm (f : Nat) : ∀ q ∈ Ji (Try.f73.body.get!) JmX, q.Ok tau Try.prog 0 := by
  rw [Jzl f]; intro q hq; cases hq
theorem JuE : Try.prog.funcs[73]? = some Try.f73 := by kernel_rfl
theorem JuF : Try.f73.body = some (Try.f73.body.get!) := by kernel_rfl
theorem Jzn : Enters Try.prog 73 := enters_of JuE (by kernel_rfl) JuF
noncomputable def Jkx : List PV → List Ent → (Res → Option Res) → Option Res
  | [.sc (.int .u32 x), .sc (.int .u64 n)], [], k => g73 0 x n k
  | _, _, _ => none
noncomputable def s73 : Sig := { own := [], run := Jkx }
theorem Jzo : Jk tau Try.prog 73 s73 := JV Js Jrn Jt JuE JuF JmX [.ro] 0 [] Jkx (Jzm 0) fun xs es k res hr => by
  unfold Jkx at hr
  split at hr
  · exact ⟨rfl, 0, (e73 0 _ _  _).trans hr⟩
  · cases hr
-- FN sha.right | ref2.rot
def rr (x n : Int) : Int := JE .or .u32 (Xk .u32 x (32 - n)) (JB .u32 x n)
theorem Jdl (x y : Int) : JE .or .u32 x y = JE .or .u32 y x := by
  simp only [JE]; rw [BitVec.or_comm]
theorem Jky {P : Int → Prop} (h : ∀ m : Nat, m < 31 → P ((m : Int) + 1)) (n : Int) (h1 : 1 ≤ n) (h2 : n ≤ 31) : P n := by
  have := h (n - 1).toNat (by omega)
  have he : (((n - 1).toNat : Nat) : Int) + 1 = n := by omega
  rwa [he] at this
def Jdm : List PV → List Ent → (Res → Option Res) → Option Res
  | [.sc (.int .u32 x), .sc (.int .i64 n)], [], k => bif decide (1 ≤ n) && decide (n ≤ 31) then k ⟨.sc (.int .u32 (rr x n)), [], []⟩ else none
  | _, _, _ => none
def Jkz : Sig := { own := [], run := Jdm }
theorem Jgy (x : Int) (k : Res → Option Res) (n : Int) (h1 : 1 ≤ n) (h2 : n ≤ 31) : JmW 0 x n k = k ⟨.sc (.int .u32 (rr x n)), [], []⟩ := by
  refine Jky (P := fun n => JmW 0 x n k = k ⟨.sc (.int .u32 (rr x n)), [], []⟩) ?_ n h1 h2
  intro m hm
  iterate 31 (rcases m with _ | m; · kernel_rfl)
  omega
theorem JkA : Jk tau Try.prog 124 Jkz := JuD.of fun xs es k res hr => by
  change Jdm xs es k = some res at hr
  unfold Jdm at hr
  split at hr
  · obtain ⟨hc, hr⟩ := JL hr
    simp only [Bool.and_eq_true, decide_eq_true_eq] at hc
    exact (Jgy _ _ _ hc.1 hc.2).trans hr
  · cases hr
def Jgz : List PV → List Ent → (Res → Option Res) → Option Res
  | [.sc (.int .u32 x), .sc (.int .u64 n)], [], k => bif decide (1 ≤ n) && decide (n ≤ 31) then k ⟨.sc (.int .u32 (rr x n)), [], []⟩ else none
  | _, _, _ => none
def JuG : Sig := { own := [], run := Jgz }
theorem Jjv (x : Int) (k : Res → Option Res) (n : Int) (h1 : 1 ≤ n) (h2 : n ≤ 31) : g73 0 x n k = k ⟨.sc (.int .u32 (rr x n)), [], []⟩ := by
  have hc : ∀ n, rr x n = JE .or .u32 (JB .u32 x n) (Xk .u32 x (32 - n)) := fun n => Jdl _ _
  rw [hc]
  refine Jky (P := fun n => g73 0 x n k = k ⟨.sc (.int .u32 (JE .or .u32 (JB .u32 x n) (Xk .u32 x (32 - n)))), [], []⟩) ?_ n h1 h2
  intro m hm
  iterate 31 (rcases m with _ | m; · kernel_rfl)
  omega
theorem JuH : Jk tau Try.prog 73 JuG := Jzo.of fun xs es k res hr => by
  change Jgz xs es k = some res at hr
  unfold Jgz at hr
  split at hr
  · obtain ⟨hc, hr⟩ := JL hr
    simp only [Bool.and_eq_true, decide_eq_true_eq] at hc
    exact (Jjv _ _ _ hc.1 hc.2).trans hr
  · cases hr
def Xz : Nat := 89
noncomputable def JeV : Fns := JH 124 Jkz (F0)
theorem Jdn : JA tau Try.prog JeV := (JJ).add JkA Jpl
noncomputable def Gr : Code := Qy (Try.f122.body.get!) [1, 1, 0, 1, 0, 0]
def Wu : Nm := [(0, .any), (2, .any), (3, .any), (8, .any)]
def W4 : Nm := [(2, .any), (3, .any)]
def Ja5 : An := (.seq .leaf (.seq (.cond .leaf .leaf) (.seq (.block none (.seq .leaf .leaf)) .leaf)))
noncomputable def Gs : Code := Qy (Try.f122.body.get!) [1, 1, 1, 0, 1, 0, 0]
def Wv : Nm := [(2, .any), (3, .any), (5, .any)]
def W5 : Nm := [(2, .any), (3, .any)]
def Ja6 : An := (.seq (.seq .leaf (.cond .leaf .leaf)) (.seq (.block none (.seq .leaf .leaf)) .leaf))
def JkB (r0 : Q6) (r1 : Q6) : An := (.seq .leaf (.seq .leaf (.seq (.seq .leaf (.block none (.sum Wu Xz r0))) (.seq (.seq .leaf (.block none (.sum Wv Xz r1))) (.seq .leaf .leaf)))))
noncomputable def YO (f : Nat) (rc : Bool → Bool → List PV → Int → List PV → List PV → Option Res) (k0 : List PV → List PV → Option Res) (v0 : Bool) (v1 : Bool) (v2 : List PV) (v3 : Int) (v4 : List PV) (v5 : List PV) : Option Res := bif decide (v3 < 16) then bif decide (0 ≤ IntKind.i64.wrap (4 * v3)) && decide (IntKind.i64.wrap (4 * v3) < zi v2.length) && PV.isInt IntKind.u8 (v2.getD (IntKind.i64.wrap (4 * v3)).toNat PV.top) && true then bif decide (0 ≤ IntKind.i64.wrap (IntKind.i64.wrap (4 * v3) + 1)) && decide (IntKind.i64.wrap (IntKind.i64.wrap (4 * v3) + 1) < zi v2.length) && PV.isInt IntKind.u8 (v2.getD (IntKind.i64.wrap (IntKind.i64.wrap (4 * v3) + 1)).toNat PV.top) && true then bif decide (0 ≤ IntKind.i64.wrap (IntKind.i64.wrap (4 * v3) + 2)) && decide (IntKind.i64.wrap (IntKind.i64.wrap (4 * v3) + 2) < zi v2.length) && PV.isInt IntKind.u8 (v2.getD (IntKind.i64.wrap (IntKind.i64.wrap (4 * v3) + 2)).toNat PV.top) && true then bif decide (0 ≤ IntKind.i64.wrap (IntKind.i64.wrap (4 * v3) + 3)) && decide (IntKind.i64.wrap (IntKind.i64.wrap (4 * v3) + 3) < zi v2.length) && PV.isInt IntKind.u8 (v2.getD (IntKind.i64.wrap (IntKind.i64.wrap (4 * v3) + 3)).toNat PV.top) && true then bif decide (0 ≤ v3) && decide (v3 < zi 64) && true then rc v0 v1 v2 (IntKind.i64.wrap (v3 + 1)) v4 (v5.set v3.toNat (.sc (.int .u32 (JE BinOp.or IntKind.u32 (JE BinOp.or IntKind.u32 (JE BinOp.or IntKind.u32 (Xk IntKind.u32 (IntKind.u32.wrap (v2.getD (IntKind.i64.wrap (4 * v3)).toNat PV.top).int) 24) (Xk IntKind.u32 (IntKind.u32.wrap (v2.getD (IntKind.i64.wrap (IntKind.i64.wrap (4 * v3) + 1)).toNat PV.top).int) 16)) (Xk IntKind.u32 (IntKind.u32.wrap (v2.getD (IntKind.i64.wrap (IntKind.i64.wrap (4 * v3) + 2)).toNat PV.top).int) 8)) (IntKind.u32.wrap (v2.getD (IntKind.i64.wrap (IntKind.i64.wrap (4 * v3) + 3)).toNat PV.top).int))))) else none else none else none else none else none else k0 v4 v5
noncomputable def W6 (f : Nat) (k0 : List PV → List PV → Option Res) : Nat → Bool → Bool → List PV → Int → List PV → List PV → Option Res
  | 0, _, _, _, _, _, _ => none
  | n + 1, v0, v1, v2, v3, v4, v5 => YO f (W6 f k0 n) k0 v0 v1 v2 v3 v4 v5
theorem JkC (f : Nat) (k : Kont) (n : Nat) (v0 : Bool) (v1 : Bool) (v2 : List PV) (v3 : Int) (v4 : List PV) (v5 : List PV) : Jq tau 0 Wu (fun s k => ev tau JeV 0 0 Gr (Ja5 ) s k) (n + 1) (Je Wu Xz [.ro 5 v0 v1 v2, .ptr 1440 [], .ptr 1441 [], .sc (.int .i64 v3)] [(1440, .box false 118 (PV.ar 118 v4)), (1441, .box false 118 (PV.ar 118 v5))]) (Jz tau 0 W4 k) = YO f (fun v0 v1 v2 v3 v4 v5 => Jq tau 0 Wu (fun s k => ev tau JeV 0 0 Gr (Ja5 ) s k) n (Je Wu Xz [.ro 5 v0 v1 v2, .ptr 1440 [], .ptr 1441 [], .sc (.int .i64 v3)] [(1440, .box false 118 (PV.ar 118 v4)), (1441, .box false 118 (PV.ar 118 v5))]) (Jz tau 0 W4 k)) (fun x0 x1 => k (Ex.exit 0) (Je W4 Xz [.ptr 1440 [], .ptr 1441 []] [(1440, .box false 118 (PV.ar 118 x0)), (1441, .box false 118 (PV.ar 118 x1))])) v0 v1 v2 v3 v4 v5 := by kernel_rfl
theorem JeW (f : Nat) (k : Kont) : ∀ (n : Nat) (v0 : Bool) (v1 : Bool) (v2 : List PV) (v3 : Int) (v4 : List PV) (v5 : List PV), Jq tau 0 Wu (fun s k => ev tau JeV 0 0 Gr (Ja5 ) s k) n (Je Wu Xz [.ro 5 v0 v1 v2, .ptr 1440 [], .ptr 1441 [], .sc (.int .i64 v3)] [(1440, .box false 118 (PV.ar 118 v4)), (1441, .box false 118 (PV.ar 118 v5))]) (Jz tau 0 W4 k) = W6 f (fun x0 x1 => k (Ex.exit 0) (Je W4 Xz [.ptr 1440 [], .ptr 1441 []] [(1440, .box false 118 (PV.ar 118 x0)), (1441, .box false 118 (PV.ar 118 x1))])) n v0 v1 v2 v3 v4 v5 | 0, _, _, _, _, _, _ => rfl | n + 1, v0, v1, v2, v3, v4, v5 => (JkC f k n v0 v1 v2 v3 v4 v5).trans (congrArg (fun r => YO f r (fun x0 x1 => k (Ex.exit 0) (Je W4 Xz [.ptr 1440 [], .ptr 1441 []] [(1440, .box false 118 (PV.ar 118 x0)), (1441, .box false 118 (PV.ar 118 x1))])) v0 v1 v2 v3 v4 v5) (by funext v0 v1 v2 v3 v4 v5; exact JeW f k n v0 v1 v2 v3 v4 v5))
noncomputable def Gt (f : Nat) : List PV → List (Nat × Ent) → Kont → Option Res
  | [.ro 5 v0 v1 v2, .ptr 1440 [], .ptr 1441 [],
  PV.sc
    (Value.int IntKind.i64
      v3)], [(1440, .box false 118 (PV.ar 118 v4)),
  (1441,
    Ent.box false 118
      (PV.ar 118
        v5))], k => W6 f (fun x0 x1 => k (Ex.exit
  0) (Je W4 Xz [.ptr 1440 [], .ptr 1441 []] [(1440, .box false 118 (PV.ar 118 x0)), (1441, .box false 118 (PV.ar 118 x1))])) f v0 v1 v2 v3 v4 v5
  | _, _, _ => none
theorem JmY (f : Nat) : Ji Gr Ja5 = [] := by kernel_rfl
theorem Jro (f : Nat) : (Item.l Gr Wu Xz (Gt f)).Ok tau Try.prog 0 := JM Js Jdn Jt (x := Ja5) (nm2 := W4) (Jr _ _ (by rw [JmY f]; intro q hq; cases hq)) fun vs hp k res hr => by
  unfold Gt at hr
  split at hr
  · exact ⟨f, 0, (JeW f _ f _ _ _ _ _ _ ).trans hr⟩
  · cases hr
noncomputable def YP (f : Nat) (rc : Int → List PV → List PV → Option Res) (k0 : List PV → List PV → Option Res) (v0 : Int) (v1 : List PV) (v2 : List PV) : Option Res := bif decide (v0 < 64) then bif decide (0 ≤ IntKind.i64.wrap (v0 - 15)) && decide (IntKind.i64.wrap (v0 - 15) < zi 64) && true then bif PV.isInt IntKind.u32 (Jn (PV.ar 118 v2) [(IntKind.i64.wrap (v0 - 15)).toNat]) && true then bif decide (0 ≤ IntKind.i64.wrap (v0 - 2)) && decide (IntKind.i64.wrap (v0 - 2) < zi 64) && true then bif PV.isInt IntKind.u32 (Jn (PV.ar 118 v2) [(IntKind.i64.wrap (v0 - 2)).toNat]) && true then bif decide (0 ≤ IntKind.i64.wrap (v0 - 16)) && decide (IntKind.i64.wrap (v0 - 16) < zi 64) && true then bif PV.isInt IntKind.u32 (Jn (PV.ar 118 v2) [(IntKind.i64.wrap (v0 - 16)).toNat]) && true then bif decide (0 ≤ IntKind.i64.wrap (v0 - 7)) && decide (IntKind.i64.wrap (v0 - 7) < zi 64) && true then bif PV.isInt IntKind.u32 (Jn (PV.ar 118 v2) [(IntKind.i64.wrap (v0 - 7)).toNat]) && true then bif decide (0 ≤ v0) && decide (v0 < zi 64) && true then rc (IntKind.i64.wrap (v0 + 1)) v1 (v2.set v0.toNat (.sc (.int .u32 (IntKind.u32.wrap (IntKind.u32.wrap (IntKind.u32.wrap ((Jn (PV.ar 118 v2) [(IntKind.i64.wrap (v0 - 16)).toNat]).int + JE BinOp.xor IntKind.u32 (JE BinOp.xor IntKind.u32 (rr (Jn (PV.ar 118 v2) [(IntKind.i64.wrap (v0 - 15)).toNat]).int 7) (rr (Jn (PV.ar 118 v2) [(IntKind.i64.wrap (v0 - 15)).toNat]).int 18)) (JB IntKind.u32 (Jn (PV.ar 118 v2) [(IntKind.i64.wrap (v0 - 15)).toNat]).int 3)) + (Jn (PV.ar 118 v2) [(IntKind.i64.wrap (v0 - 7)).toNat]).int) + JE BinOp.xor IntKind.u32 (JE BinOp.xor IntKind.u32 (rr (Jn (PV.ar 118 v2) [(IntKind.i64.wrap (v0 - 2)).toNat]).int 17) (rr (Jn (PV.ar 118 v2) [(IntKind.i64.wrap (v0 - 2)).toNat]).int 19)) (JB IntKind.u32 (Jn (PV.ar 118 v2) [(IntKind.i64.wrap (v0 - 2)).toNat]).int 10)))))) else none else none else none else none else none else none else none else none else none else k0 v1 v2
noncomputable def W7 (f : Nat) (k0 : List PV → List PV → Option Res) : Nat → Int → List PV → List PV → Option Res
  | 0, _, _, _ => none
  | n + 1, v0, v1, v2 => YP f (W7 f k0 n) k0 v0 v1 v2
theorem JkD (f : Nat) (k : Kont) (n : Nat) (v0 : Int) (v1 : List PV) (v2 : List PV) : Jq tau 0 Wv (fun s k => ev tau JeV 0 0 Gs (Ja6 ) s k) (n + 1) (Je Wv Xz [.ptr 1440 [], .ptr 1441 [], .sc (.int .i64 v0)] [(1440, .box false 118 (PV.ar 118 v1)), (1441, .box false 118 (PV.ar 118 v2))]) (Jz tau 0 W5 k) = YP f (fun v0 v1 v2 => Jq tau 0 Wv (fun s k => ev tau JeV 0 0 Gs (Ja6 ) s k) n (Je Wv Xz [.ptr 1440 [], .ptr 1441 [], .sc (.int .i64 v0)] [(1440, .box false 118 (PV.ar 118 v1)), (1441, .box false 118 (PV.ar 118 v2))]) (Jz tau 0 W5 k)) (fun x0 x1 => k (Ex.exit 2) (Je W5 Xz [.ptr 1440 [], .ptr 1441 []] [(1440, .box false 118 (PV.ar 118 x0)), (1441, .box false 118 (PV.ar 118 x1))])) v0 v1 v2 := by kernel_rfl
theorem JeX (f : Nat) (k : Kont) : ∀ (n : Nat) (v0 : Int) (v1 : List PV) (v2 : List PV), Jq tau 0 Wv (fun s k => ev tau JeV 0 0 Gs (Ja6 ) s k) n (Je Wv Xz [.ptr 1440 [], .ptr 1441 [], .sc (.int .i64 v0)] [(1440, .box false 118 (PV.ar 118 v1)), (1441, .box false 118 (PV.ar 118 v2))]) (Jz tau 0 W5 k) = W7 f (fun x0 x1 => k (Ex.exit 2) (Je W5 Xz [.ptr 1440 [], .ptr 1441 []] [(1440, .box false 118 (PV.ar 118 x0)), (1441, .box false 118 (PV.ar 118 x1))])) n v0 v1 v2 | 0, _, _, _ => rfl | n + 1, v0, v1, v2 => (JkD f k n v0 v1 v2).trans (congrArg (fun r => YP f r (fun x0 x1 => k (Ex.exit 2) (Je W5 Xz [.ptr 1440 [], .ptr 1441 []] [(1440, .box false 118 (PV.ar 118 x0)), (1441, .box false 118 (PV.ar 118 x1))])) v0 v1 v2) (by funext v0 v1 v2; exact JeX f k n v0 v1 v2))
noncomputable def Gu (f : Nat) : List PV → List (Nat × Ent) → Kont → Option Res
  | [.ptr 1440 [], .ptr 1441 [],
  PV.sc
    (Value.int IntKind.i64
      v0)], [(1440, .box false 118 (PV.ar 118 v1)),
  (1441,
    Ent.box false 118
      (PV.ar 118
        v2))], k => W7 f (fun x0 x1 => k (Ex.exit
  2) (Je W5 Xz [.ptr 1440 [], .ptr 1441 []] [(1440, .box false 118 (PV.ar 118 x0)), (1441, .box false 118 (PV.ar 118 x1))])) f v0 v1 v2
  | _, _, _ => none
theorem JmZ (f : Nat) : Ji Gs Ja6 = [] := by kernel_rfl
theorem Jrp (f : Nat) : (Item.l Gs Wv Xz (Gu f)).Ok tau Try.prog 0 := JM Js Jdn Jt (x := Ja6) (nm2 := W5) (Jr _ _ (by rw [JmZ f]; intro q hq; cases hq)) fun vs hp k res hr => by
  unfold Gu at hr
  split at hr
  · exact ⟨f, 0, (JeX f _ f _ _ _ ).trans hr⟩
  · cases hr
noncomputable def JuI (f : Nat) (b_z : Bool) (b_f : Bool) (b : List PV) (k : Res → Option Res) : Option Res := W6 f (fun x0_0 x1_0 => W7 f (fun x0_1 x1_1 => k (Res.mk (.ar 118 x1_1) [] [])) f (16) x0_0 x1_0) f b_z b_f b (0) ([.sc (.int .u32 0), .sc (.int .u32 0), .sc (.int .u32 0), .sc (.int .u32 0), .sc (.int .u32 0), .sc (.int .u32 0), .sc (.int .u32 0), .sc (.int .u32 0), .sc (.int .u32 0), .sc (.int .u32 0), .sc (.int .u32 0), .sc (.int .u32 0), .sc (.int .u32 0), .sc (.int .u32 0), .sc (.int .u32 0), .sc (.int .u32 0), .sc (.int .u32 0), .sc (.int .u32 0), .sc (.int .u32 0), .sc (.int .u32 0), .sc (.int .u32 0), .sc (.int .u32 0), .sc (.int .u32 0), .sc (.int .u32 0), .sc (.int .u32 0), .sc (.int .u32 0), .sc (.int .u32 0), .sc (.int .u32 0), .sc (.int .u32 0), .sc (.int .u32 0), .sc (.int .u32 0), .sc (.int .u32 0), .sc (.int .u32 0), .sc (.int .u32 0), .sc (.int .u32 0), .sc (.int .u32 0), .sc (.int .u32 0), .sc (.int .u32 0), .sc (.int .u32 0), .sc (.int .u32 0), .sc (.int .u32 0), .sc (.int .u32 0), .sc (.int .u32 0), .sc (.int .u32 0), .sc (.int .u32 0), .sc (.int .u32 0), .sc (.int .u32 0), .sc (.int .u32 0), .sc (.int .u32 0), .sc (.int .u32 0), .sc (.int .u32 0), .sc (.int .u32 0), .sc (.int .u32 0), .sc (.int .u32 0), .sc (.int .u32 0), .sc (.int .u32 0), .sc (.int .u32 0), .sc (.int .u32 0), .sc (.int .u32 0), .sc (.int .u32 0), .sc (.int .u32 0), .sc (.int .u32 0), .sc (.int .u32 0), .sc (.int .u32 0)]) ([.sc (.int .u32 0), .sc (.int .u32 0), .sc (.int .u32 0), .sc (.int .u32 0), .sc (.int .u32 0), .sc (.int .u32 0), .sc (.int .u32 0), .sc (.int .u32 0), .sc (.int .u32 0), .sc (.int .u32 0), .sc (.int .u32 0), .sc (.int .u32 0), .sc (.int .u32 0), .sc (.int .u32 0), .sc (.int .u32 0), .sc (.int .u32 0), .sc (.int .u32 0), .sc (.int .u32 0), .sc (.int .u32 0), .sc (.int .u32 0), .sc (.int .u32 0), .sc (.int .u32 0), .sc (.int .u32 0), .sc (.int .u32 0), .sc (.int .u32 0), .sc (.int .u32 0), .sc (.int .u32 0), .sc (.int .u32 0), .sc (.int .u32 0), .sc (.int .u32 0), .sc (.int .u32 0), .sc (.int .u32 0), .sc (.int .u32 0), .sc (.int .u32 0), .sc (.int .u32 0), .sc (.int .u32 0), .sc (.int .u32 0), .sc (.int .u32 0), .sc (.int .u32 0), .sc (.int .u32 0), .sc (.int .u32 0), .sc (.int .u32 0), .sc (.int .u32 0), .sc (.int .u32 0), .sc (.int .u32 0), .sc (.int .u32 0), .sc (.int .u32 0), .sc (.int .u32 0), .sc (.int .u32 0), .sc (.int .u32 0), .sc (.int .u32 0), .sc (.int .u32 0), .sc (.int .u32 0), .sc (.int .u32 0), .sc (.int .u32 0), .sc (.int .u32 0), .sc (.int .u32 0), .sc (.int .u32 0), .sc (.int .u32 0), .sc (.int .u32 0), .sc (.int .u32 0), .sc (.int .u32 0), .sc (.int .u32 0), .sc (.int .u32 0)])
theorem Jzp (f : Nat) (b_z : Bool) (b_f : Bool) (b : List PV) (k : Res → Option Res) : JN tau JeV Try.f122 (Try.f122.body.get!) (JkB (Gt f) (Gu f)) [] 0 [.ro 5 b_z b_f b] [] k = JuI f b_z b_f b k := by kernel_rfl
theorem JuJ (f : Nat) : Ji (Try.f122.body.get!) (JkB (Gt f) (Gu f)) = [.l Gr Wu Xz (Gt f), .l Gs Wv Xz (Gu f)] := by kernel_rfl
theorem JuK (f : Nat) : ∀ q ∈ Ji (Try.f122.body.get!) (JkB (Gt f) (Gu f)), q.Ok tau Try.prog 0 := by
  rw [JuJ f]; simp only [List.forall_mem_cons, List.not_mem_nil, false_implies, implies_true, and_true]; exact ⟨Jro f, Jrp f⟩
theorem Jpm : Try.prog.funcs[122]? = some Try.f122 := by kernel_rfl
theorem Jpn : Try.f122.body = some (Try.f122.body.get!) := by kernel_rfl
theorem JuL : Enters Try.prog 122 := enters_of Jpm (by kernel_rfl) Jpn
-- FN sha.spread
abbrev ww (x : Int) : Int := IntKind.u32.wrap x
def JuM (a b c d : Int) : Int := JE .or .u32 (JE .or .u32 (JE .or .u32 (Xk .u32 (ww a) 24) (Xk .u32 (ww b) 16)) (Xk .u32 (ww c) 8)) (ww d)
def sg0 (x : Int) : Int := JE .xor .u32 (JE .xor .u32 (rr x 7) (rr x 18)) (JB .u32 x 3)
def sg1 (x : Int) : Int := JE .xor .u32 (JE .xor .u32 (rr x 17) (rr x 19)) (JB .u32 x 10)
def Jm0 (w16 w15 w7 w2 : Int) : Int := ww (ww (ww (w16 + sg0 w15) + w7) + sg1 w2)
def JbL (bs : List Int) (j : Nat) : Int := JuM (bs.getD (4 * j) 0) (bs.getD (4 * j + 1) 0) (bs.getD (4 * j + 2) 0) (bs.getD (4 * j + 3) 0)
def Ql (bs : List Int) : Nat → List Int
  | 0 => (List.range 16).map (JbL bs)
  | i + 1 => Ql bs i ++ [Jm0 ((Ql bs i).getD i 0) ((Ql bs i).getD (i + 1) 0) ((Ql bs i).getD (i + 9) 0) ((Ql bs i).getD (i + 14) 0)]
def Qc (bs : List Int) : List Int := Ql bs 48
theorem JU (bs : List Int) : ∀ i, (Ql bs i).length = 16 + i
  | 0 => by simp [Ql]
  | i + 1 => by simp [Ql, JU bs i]; omega
def Ja7 (bs : List Int) (i : Nat) : List Int := (List.range i).map (JbL bs) ++ List.replicate (64 - i) 0
def G3 (bs : List Int) (i : Nat) : List Int := Ql bs i ++ List.replicate (48 - i) 0
theorem Jdo (bs : List Int) (i : Nat) (h : i ≤ 48) : (G3 bs i).length = 64 := by simp [G3, JU]; omega
theorem JeY (L : List Int) (m : Nat) (x : Int) : (L ++ List.replicate (m + 1) 0).set L.length x = (L ++ [x]) ++ List.replicate m 0 := by
  simp [List.replicate_succ]
theorem Jjw (bs : List Int) (i : Nat) (h : i < 64) : (Ja7 bs i).set i (JbL bs i) = Ja7 bs (i + 1) := by
  have := JeY ((List.range i).map (JbL bs)) (63 - i) (JbL bs i)
  simp only [List.length_map, List.length_range] at this
  simp only [Ja7, show 64 - i = 63 - i + 1 from by omega, this, show 64 - (i + 1) = 63 - i from by omega, List.range_succ, List.map_append, List.map_cons, List.map_nil]
theorem ZB (bs : List Int) (i j : Nat) (h : j < 16 + i) : (G3 bs i).getD j 0 = (Ql bs i).getD j 0 := by
  simp only [G3, List.getD_eq_getElem?_getD]
  rw [List.getElem?_append_left (by rw [JU]; exact h)]
theorem Jjx (bs : List Int) (i : Nat) (h : i < 48) (x : Int) : (G3 bs i).set (i + 16) x = (Ql bs i ++ [x]) ++ List.replicate (48 - (i + 1)) 0 := by
  have := JeY (Ql bs i) (47 - i) x
  rw [JU] at this
  rw [G3, show 48 - i = 47 - i + 1 from by omega, show i + 16 = 16 + i from by omega, this, show 48 - (i + 1) = 47 - i from by omega]
theorem JkE (bs : List Int) (hb : bs.length = 64) (f : Nat) (k0 : List PV → List PV → Option Res) (nl fl : Bool) (w : List PV) : ∀ (d i n : Nat), i + d = 16 → d < n →
    W6 f k0 n nl fl (pu .u8 bs) (i : Int) w (pu .u32 (Ja7 bs i)) = k0 w (pu .u32 (Ja7 bs 16))
  | 0, i, n + 1, h, hn => by
      obtain rfl : i = 16 := by omega
      simp only [W6, YO]
      exact Jx (by decide)
  | d + 1, i, n + 1, h, hn => by
      have h4 : IntKind.i64.wrap (4 * (i : Int)) = ((4 * i : Nat) : Int) := by rw [wrap_i64 (by omega) (by omega)]; omega
      have h41 : IntKind.i64.wrap (((4 * i : Nat) : Int) + 1) = ((4 * i + 1 : Nat) : Int) := by rw [wrap_i64 (by omega) (by omega)]; omega
      have h42 : IntKind.i64.wrap (((4 * i : Nat) : Int) + 2) = ((4 * i + 2 : Nat) : Int) := by rw [wrap_i64 (by omega) (by omega)]; omega
      have h43 : IntKind.i64.wrap (((4 * i : Nat) : Int) + 3) = ((4 * i + 3 : Nat) : Int) := by rw [wrap_i64 (by omega) (by omega)]; omega
      have h5 : IntKind.i64.wrap ((i : Int) + 1) = ((i + 1 : Nat) : Int) := by rw [wrap_i64 (by omega) (by omega)]; omega
      simp only [W6, YO, h4, h41, h42, h43, h5, Int.toNat_natCast, zi]
      rw [JY (by omega), JY (by omega), JY (by omega), JY (by omega), Qn (by omega), Qn (by omega), Qn (by omega), Qn (by omega), JG, Wn]
      refine (Jb (by simp; omega)).trans ?_
      refine (Jb (by simp; omega)).trans ?_
      refine (Jb (by simp; omega)).trans ?_
      refine (Jb (by simp; omega)).trans ?_
      refine (Jb (by simp; omega)).trans ?_
      refine (Jb (by simp; omega)).trans ?_
      have := JkE bs hb f k0 nl fl w d (i + 1) n (by omega) (by omega)
      rw [← Jjw bs i (by omega)] at this
      exact this
theorem JkF (bs : List Int) (f : Nat) (k0 : List PV → List PV → Option Res) (w : List PV) : ∀ (d i n : Nat), i + d = 48 → d < n →
    W7 f k0 n ((i + 16 : Nat) : Int) w (pu .u32 (G3 bs i)) = k0 w (pu .u32 (Ql bs 48))
  | 0, i, n + 1, h, hn => by
      obtain rfl : i = 48 := by omega
      simp only [W7, YP]
      exact (Jx (by decide)).trans (by simp [G3])
  | d + 1, i, n + 1, h, hn => by
      have h15 : IntKind.i64.wrap (((i + 16 : Nat) : Int) - 15) = ((i + 1 : Nat) : Int) := by rw [wrap_i64 (by omega) (by omega)]; omega
      have h2 : IntKind.i64.wrap (((i + 16 : Nat) : Int) - 2) = ((i + 14 : Nat) : Int) := by rw [wrap_i64 (by omega) (by omega)]; omega
      have h16 : IntKind.i64.wrap (((i + 16 : Nat) : Int) - 16) = ((i : Nat) : Int) := by rw [wrap_i64 (by omega) (by omega)]; omega
      have h7 : IntKind.i64.wrap (((i + 16 : Nat) : Int) - 7) = ((i + 9 : Nat) : Int) := by rw [wrap_i64 (by omega) (by omega)]; omega
      have h1 : IntKind.i64.wrap (((i + 16 : Nat) : Int) + 1) = ((i + 1 + 16 : Nat) : Int) := by rw [wrap_i64 (by omega) (by omega)]; omega
      have hl := Jdo bs i (by omega)
      simp only [W7, YP, h15, h2, h16, h7, h1, Int.toNat_natCast, zi, Ws]
      rw [JY (by omega), JY (by omega), JY (by omega), JY (by omega), Qn (by omega), Qn (by omega), Qn (by omega), Qn (by omega), Wn]
      refine (Jb (by simp; omega)).trans ?_
      refine (Jb (by simp; omega)).trans ?_
      refine (Jb (by simp)).trans ?_
      refine (Jb (by simp; omega)).trans ?_
      refine (Jb (by simp)).trans ?_
      refine (Jb (by simp; omega)).trans ?_
      refine (Jb (by simp)).trans ?_
      refine (Jb (by simp; omega)).trans ?_
      refine (Jb (by simp)).trans ?_
      refine (Jb (by simp; omega)).trans ?_
      have := JkF bs f k0 w d (i + 1) n (by omega) (by omega)
      rw [ZB bs i i (by omega), ZB bs i (i + 1) (by omega), ZB bs i (i + 9) (by omega), ZB bs i (i + 14) (by omega), Jjx bs i (by omega)]
      exact this
theorem Jm1 (bs : List Int) (hb : bs.length = 64) (nl fl : Bool) (k : Res → Option Res) : JuI 100 nl fl (pu .u8 bs) k = k ⟨.ar 118 (pu .u32 (Qc bs)), [], []⟩ := by
  have h0 : ∀ k0 w, W6 100 k0 100 nl fl (pu .u8 bs) 0 w (pu .u32 (List.replicate 64 0)) = k0 w (pu .u32 (Ja7 bs 16)) := fun k0 w => JkE bs hb 100 k0 nl fl w 16 0 100 (by omega) (by omega)
  have h1 : ∀ k0 w, W7 100 k0 100 16 w (pu .u32 (Ja7 bs 16)) = k0 w (pu .u32 (Ql bs 48)) := fun k0 w => JkF bs 100 k0 w 48 0 100 (by omega) (by omega)
  exact (h0 _ _).trans (h1 _ _)
def Jdp : List PV → List Ent → (Res → Option Res) → Option Res
  | [.ro 5 nl fl b], [], k => bif Jd .u8 b && decide (b.length = 64) then k ⟨.ar 118 (pu .u32 (Qc (Jh b))), [], []⟩ else none
  | _, _, _ => none
def Jpo : Sig := { own := [], run := Jdp }
theorem Jrq : Jk tau Try.prog 122 Jpo := JV Js Jdn Jt Jpm Jpn _ [] 0 [] Jdp (JuK 100) fun xs es k res hr => by
  unfold Jdp at hr
  split at hr
  · obtain ⟨hc, hr⟩ := JL hr
    simp only [Bool.and_eq_true, decide_eq_true_eq] at hc
    refine ⟨rfl, 0, (Jzp 100 _ _ _ _).trans ?_⟩
    rw [Qb hc.1, Jm1 _ (by simpa using hc.2)]
    exact hr
  · cases hr
def Qs (g : Nat → Int) (t : List Int) (i : Nat) : List Int := (List.range i).map g ++ t.drop i
theorem Qz (g : Nat → Int) (t : List Int) : Qs g t 0 = t := by simp [Qs]
theorem QP (g : Nat → Int) (t : List Int) : Qs g t t.length = (List.range t.length).map g := by simp [Qs]
theorem XU (g : Nat → Int) (t : List Int) (i : Nat) (h : i ≤ t.length) : (Qs g t i).length = t.length := by simp [Qs]; omega
theorem Qo (g : Nat → Int) (t : List Int) (i : Nat) (h : i < t.length) : (Qs g t i).set i (g i) = Qs g t (i + 1) := by
  rw [Qs, List.set_append_right _ _ (by simp), List.drop_eq_getElem_cons h, List.length_map, List.length_range, Nat.sub_self, List.set_cons_zero]
  simp [Qs, List.range_succ]
theorem Gv (g : Nat → Int) (t : List Int) (i : Nat) (h : i < t.length) : (Qs g t i).getD i 0 = t.getD i 0 := by
  simp only [Qs, List.getD_eq_getElem?_getD]
  rw [List.getElem?_append_right (by simp)]
  simp
def kks : List Int := [1116352408, 1899447441, 3049323471, 3921009573, 961987163, 1508970993, 2453635748, 2870763221, 3624381080, 310598401, 607225278, 1426881987, 1925078388, 2162078206, 2614888103, 3248222580, 3835390401, 4022224774, 264347078, 604807628, 770255983, 1249150122, 1555081692, 1996064986, 2554220882, 2821834349, 2952996808, 3210313671, 3336571891, 3584528711, 113926993, 338241895, 666307205, 773529912, 1294757372, 1396182291, 1695183700, 1986661051, 2177026350, 2456956037, 2730485921, 2820302411, 3259730800, 3345764771, 3516065817, 3600352804, 4094571909, 275423344, 430227734, 506948616, 659060556, 883997877, 958139571, 1322822218, 1537002063, 1747873779, 1955562222, 2024104815, 2227730452, 2361852424, 2428436474, 2756734187, 3204031479, 3329325298]
def iv : List Int := [1779033703, 3144134277, 1013904242, 2773480762, 1359893119, 2600822924, 528734635, 1541459225]
def xW (k w h e f g : Int) : Int := ww (ww (ww (ww (h + JE .xor .u32 (JE .xor .u32 (rr e 6) (rr e 11)) (rr e 25)) + JE .xor .u32 (JE .and .u32 e f) (JE .and .u32 (JE .xor .u32 (Int.ofNat (2 ^ IntKind.u32.bits - Nat.succ 0)) e) g)) + k) + w)
def yW (a b c : Int) : Int := ww (JE .xor .u32 (JE .xor .u32 (rr a 2) (rr a 13)) (rr a 22) + JE .xor .u32 (JE .xor .u32 (JE .and .u32 a b) (JE .and .u32 a c)) (JE .and .u32 b c))
def rnd (k w : Int) (t : List Int) : List Int :=
  [ww (xW k w (t.getD 7 0) (t.getD 4 0) (t.getD 5 0) (t.getD 6 0) + yW (t.getD 0 0) (t.getD 1 0) (t.getD 2 0)), t.getD 0 0, t.getD 1 0, t.getD 2 0,
    ww (t.getD 3 0 + xW k w (t.getD 7 0) (t.getD 4 0) (t.getD 5 0) (t.getD 6 0)), t.getD 4 0, t.getD 5 0, t.getD 6 0]
def YQ (W s : List Int) : Nat → List Int
  | 0 => s
  | i + 1 => rnd (kks.getD i 0) (W.getD i 0) (YQ W s i)
theorem W8 (W s : List Int) (h : s.length = 8) : ∀ i, (YQ W s i).length = 8
  | 0 => h
  | i + 1 => rfl
def JeZ (s bs : List Int) : List Int := (List.range 8).map fun i => ww ((YQ (Qc bs) s 64).getD i 0 + s.getD i 0)
theorem Je0 (s bs : List Int) : (JeZ s bs).length = 8 := by simp [JeZ]
def Q4 (s b : List Int) : Nat → List Int
  | 0 => s
  | n + 1 => JeZ (Q4 s b n) ((b.drop (64 * n)).take 64)
theorem Ww (s b : List Int) (h : s.length = 8) : ∀ n, (Q4 s b n).length = 8
  | 0 => h
  | n + 1 => Je0 _ _
def zs (m : Nat) : Nat := (120 - m % 64) % 64
def Jm2 (n : Nat) : List Int := (List.range 8).map fun (i : Nat) => IntKind.u8.wrap (JB .u64 (IntKind.u64.wrap (IntKind.u64.wrap (n : Int) * 8)) (56 - 8 * (i : Int)))
def Qt (bs : List Int) : List Int := (bs ++ [128] ++ List.replicate (zs (bs.length + 1)) 0) ++ Jm2 bs.length
theorem G4 (bs : List Int) : (Qt bs).length = 64 * ((Qt bs).length / 64) := by
  have : (Qt bs).length = bs.length + 1 + zs (bs.length + 1) + 8 := by simp [Qt, Jm2]; omega
  rw [this]; unfold zs; omega
def Yu (s : List Int) (i : Nat) : Int := IntKind.u8.wrap (JB .u32 (s.getD (i / 4) 0) (24 - 8 * ((i % 4 : Nat) : Int)))
def Jjy (s : List Int) : List Int := (List.range 32).map (Yu s)
def JhY (bs : List Int) : List Int := Jjy (Q4 iv (Qt bs) ((Qt bs).length / 64))
def Ju (bs : List Int) : List Int := bif Nat.ble bs.length bs.length then JhY bs else []
theorem Jas (bs : List Int) : Ju bs = JhY bs := by
  have : Nat.ble bs.length bs.length = true := by rw [Nat.ble_eq]; exact Nat.le_refl _
  rw [Ju, this]; rfl
theorem JZ (bs : List Int) : (Ju bs).length = 32 := by simp [Jas, JhY, Jjy]
theorem Ja8 (n : Nat) : (zi n).tmod 64 = ((n % 64 : Nat) : Int) := by
  show (n : Int).tmod 64 = _
  rw [Int.tmod_eq_emod_of_nonneg (by omega)]; omega
-- FN ref8.Hash
def Gw : Nat → RS → RS
  | 0, s => s
  | n + 1, s => Gw n (Qg 1 s)
def Gx : Nat → RS → List Int
  | 0, _ => []
  | n + 1, s => IntKind.u8.wrap (Wk 1 s) :: Gx n (Qg 1 s)
def Jjz : Nat → RT → RT
  | 0, t => t
  | n + 1, t => Jjz n (XS 1 t)
noncomputable def hashS : RS → RS := hid (Gw 32)
noncomputable def hashV : RS → List Int := hid (Gx 32)
noncomputable def hashT : RT → RT := hid (Jjz 32)
noncomputable def hashVT : RT → List Int := hid fun t => Gx 32 t.view
theorem hashS_eq (s : RS) : hashS s = Gw 32 s := by rw [hashS, hid_eq]
theorem hashV_eq (s : RS) : hashV s = Gx 32 s := by rw [hashV, hid_eq]
theorem hashT_eq (t : RT) : hashT t = Jjz 32 t := by rw [hashT, hid_eq]
theorem hashVT_eq (t : RT) : hashVT t = Gx 32 t.view := by rw [hashVT, hid_eq]
theorem G5 : ∀ (n : Nat) (s : RS), (Gx n s).length = n
  | 0, _ => rfl
  | n + 1, s => by simp [Gx, G5 n]
@[simp] theorem hashV_length (s : RS) : (hashV s).length = 32 := by rw [hashV_eq]; exact G5 32 s
theorem Jch : ∀ (n : Nat) (t : RT), (Jjz n t).view = Gw n t.view
  | 0, _ => rfl
  | n + 1, t => by simp only [Jjz, Gw, Jch n, Gp]
@[simp] theorem hashT_view (t : RT) : (hashT t).view = hashS t.view := by rw [hashT_eq, hashS_eq, Jch]
@[simp] theorem hashVT_val (t : RT) : hashVT t = hashV t.view := by rw [hashVT_eq, hashV_eq]
theorem JhZ : ∀ (n : Nat) {t : RT}, okT t = true → okT (Jjz n t) = true
  | 0, _, h => h
  | n + 1, t, h => JhZ n (VE h 1)
@[simp] theorem JuN {t : RT} (h : okT t = true) : okT (hashT t) = true := by rw [hashT_eq]; exact JhZ 32 h
theorem Jh0 : ∀ (n : Nat) {s : RS}, byB s.b = true → byB (Gw n s).b = true
  | 0, _, h => h
  | n + 1, s, h => Jh0 n (Xy h 1)
-- FN wire.read
noncomputable def fS : Nat → RS → RS
  | 0, s => s
  | 1, s => Jc 1 s
  | n + 2, s => Jc 8 (fS (n + 1) s)
def Jci (c : Int) (s : RS) : RS := ⟨s.b, bif s.e == 0 then c else s.e⟩
noncomputable def txR : Nat → RS → RS
  | 0, s => s
  | n + 1, s => txR n (J5 s)
noncomputable def Jrr (s : RS) : Int := JC 1 (fS 13 s)
noncomputable def JuO (s : RS) : Nat := bif decide (Jrr s > 4) then 0 else (Jrr s).toNat
noncomputable def JuP (s : RS) : RS := bif decide (Jrr s > 4) then Jci 4 (Jc 1 (fS 13 s)) else Jc 1 (fS 13 s)
noncomputable def Jrs : RS → List Int := hid fun s => hashV (txR (JuO s) (JuP s))
theorem Jm3 (s : RS) : Jrs s = hashV (txR (JuO s) (JuP s)) := by rw [Jrs, hid_eq]
@[simp] theorem Jpp (s : RS) : (Jrs s).length = 32 := by rw [Jm3]; exact hashV_length _
theorem Qu {s : RS} (h : byB s.b = true) (n : Nat) : byB (Jc n s).b = true := by rw [WT]; exact Xy h n
theorem Jh1 {s : RS} (h : byB s.b = true) : byB (J5 s).b = true := by rw [Jaq]; exact Xy (Xy h 2) _
theorem YR : ∀ l : List PV, (Jl l).length = l.length
  | [] => rfl
  | p :: ps => by simp [Jl, YR ps]
theorem JjA {s : RS} (h : byB s.b = true) : (JS s).size ≤ 65535 := by
  rw [Jar]
  show (Jl _).length ≤ _
  rw [YR]
  have h1 := Z3 (Wk 2 s).toNat (Qg 2 s)
  have h2 := XR h (n := 2) (Nat.le_refl 2)
  omega
theorem G6 (t : ByteArray) : (Jp t).length = t.size := by simp only [Jp, List.length_map, Array.length_toList]; rfl
noncomputable def F78 : Fns := F0
theorem Jrt : JA tau Try.prog F78 := JJ
def Jm4 : An := (.seq .leaf (.seq (.seq .leaf (.cond (.seq .leaf .leaf) .leaf)) (.seq .leaf .leaf)))
noncomputable def g78 (f : Nat) (r_b_z : Bool) (r_b_f : Bool) (r_b : List PV) (r_e : Int) (k : Res → Option Res) : Option Res := bif r_e == 0 then bif decide (zi r_b.length > 0) then k (Res.mk (.sc (.int .i64 9)) [.box false 186 (PV.st 186 [.ro 5 r_b_z r_b_f r_b, .sc (.int .i64 r_e)])] []) else k (Res.mk (.sc (.int .i64 r_e)) [.box false 186 (PV.st 186 [.ro 5 r_b_z r_b_f r_b, .sc (.int .i64 r_e)])] []) else k (Res.mk (.sc (.int .i64 r_e)) [.box false 186 (PV.st 186 [.ro 5 r_b_z r_b_f r_b, .sc (.int .i64 r_e)])] [])
theorem e78 (f : Nat) (r_b_z : Bool) (r_b_f : Bool) (r_b : List PV) (r_e : Int) (k : Res → Option Res) : JN tau F78 Try.f78 (Try.f78.body.get!) Jm4 [.ro] 0 [.ptr 0 []] [.box false 186 (.st 186 [.ro 5 r_b_z r_b_f r_b, .sc (.int .i64 r_e)])] k = g78 f r_b_z r_b_f r_b r_e k := by kernel_rfl
theorem Jzq (f : Nat) : Ji (Try.f78.body.get!) Jm4 = [] := by kernel_rfl
theorem Jzr (f : Nat) : ∀ q ∈ Ji (Try.f78.body.get!) Jm4, q.Ok tau Try.prog 1 := by
  rw [Jzq f]; intro q hq; cases hq
theorem JuQ : Try.prog.funcs[78]? = some Try.f78 := by kernel_rfl
theorem JuR : Try.f78.body = some (Try.f78.body.get!) := by kernel_rfl
theorem JuS : Enters Try.prog 78 := enters_of JuQ (by kernel_rfl) JuR
noncomputable def JkG : List PV → List Ent → (Res → Option Res) → Option Res
  | [.ptr 0 []], [.box false 186 (.st 186 [.ro 5 r_b_z r_b_f r_b, .sc (.int .i64 r_e)])], k => g78 0 r_b_z r_b_f r_b r_e k
  | _, _, _ => none
noncomputable def s78 : Sig := { own := [], run := JkG }
theorem JuT : Jk tau Try.prog 78 s78 := JV Js Jrt Jt JuQ JuR Jm4 [.ro] 1 [] JkG (Jzr 0) fun xs es k res hr => by
  unfold JkG at hr
  split at hr
  · exact ⟨rfl, 0, (e78 0 _ _ _ _  _).trans hr⟩
  · cases hr





-- FN wire.check | wire.key
def QB (x m : Int) : Bool := decide (x ≥ 0) && decide (x ≤ m)
def Jzs (fr to wh wn cd cu ve co ad au su er : Int) : Bool := QB fr 2 && (QB to 2 && (!(fr == to) && (QB wh 2 && (QB wn 99 && (QB cd 2 && (QB cu 7 && (QB ad 2 && (QB au 7 && (QB ve 1073741824 && (QB co 1073741824 && (QB su 1073741824 && QB er 255)))))))))))
def Jzt (kd fr to wh wn cd cu ve co ad au su er : Int) : Int := bif QB (IntKind.i64.wrap (kd - 1)) 4 then (bif Jzs fr to wh wn cd cu ve co ad au su er then 0 else 1) else 3
structure C13 where
  (kd fr to wh wn cd cu ve co ad au su er : Int)
noncomputable def chk : C13 → Int := hid fun c => Jzt c.kd c.fr c.to c.wh c.wn c.cd c.cu c.ve c.co c.ad c.au c.su c.er
def WU (l : List PV) (d : Int) : PV := bif QB d 2 then l.getD d.toNat .top else .ro 5 true true []
structure K3 where
  (l : List PV) (d : Int)
noncomputable def Qv : K3 → List PV := hid fun c => (WU c.l c.d).els
noncomputable def Jru : K3 → Bool := hid fun c => (WU c.l c.d).nl
noncomputable def Jrv : K3 → Bool := hid fun c => (WU c.l c.d).fl
theorem Jat (c : K3) : Qv c = (WU c.l c.d).els := by rw [Qv, hid_eq]
theorem Jm5 (c : K3) : Jru c = (WU c.l c.d).nl := by rw [Jru, hid_eq]
theorem Jm6 (c : K3) : Jrv c = (WU c.l c.d).fl := by rw [Jrv, hid_eq]
noncomputable def JuU : Fns := F0
theorem Jm7 : JA tau Try.prog JuU := JJ
def Jh2 : An := (.seq .leaf (.seq .leaf .leaf))
noncomputable def JuV (f : Nat) (k : Res → Option Res) : Option Res := k (Res.mk (.ar 118 [.sc (.int .u32 1116352408), .sc (.int .u32 1899447441), .sc (.int .u32 3049323471), .sc (.int .u32 3921009573), .sc (.int .u32 961987163), .sc (.int .u32 1508970993), .sc (.int .u32 2453635748), .sc (.int .u32 2870763221), .sc (.int .u32 3624381080), .sc (.int .u32 310598401), .sc (.int .u32 607225278), .sc (.int .u32 1426881987), .sc (.int .u32 1925078388), .sc (.int .u32 2162078206), .sc (.int .u32 2614888103), .sc (.int .u32 3248222580), .sc (.int .u32 3835390401), .sc (.int .u32 4022224774), .sc (.int .u32 264347078), .sc (.int .u32 604807628), .sc (.int .u32 770255983), .sc (.int .u32 1249150122), .sc (.int .u32 1555081692), .sc (.int .u32 1996064986), .sc (.int .u32 2554220882), .sc (.int .u32 2821834349), .sc (.int .u32 2952996808), .sc (.int .u32 3210313671), .sc (.int .u32 3336571891), .sc (.int .u32 3584528711), .sc (.int .u32 113926993), .sc (.int .u32 338241895), .sc (.int .u32 666307205), .sc (.int .u32 773529912), .sc (.int .u32 1294757372), .sc (.int .u32 1396182291), .sc (.int .u32 1695183700), .sc (.int .u32 1986661051), .sc (.int .u32 2177026350), .sc (.int .u32 2456956037), .sc (.int .u32 2730485921), .sc (.int .u32 2820302411), .sc (.int .u32 3259730800), .sc (.int .u32 3345764771), .sc (.int .u32 3516065817), .sc (.int .u32 3600352804), .sc (.int .u32 4094571909), .sc (.int .u32 275423344), .sc (.int .u32 430227734), .sc (.int .u32 506948616), .sc (.int .u32 659060556), .sc (.int .u32 883997877), .sc (.int .u32 958139571), .sc (.int .u32 1322822218), .sc (.int .u32 1537002063), .sc (.int .u32 1747873779), .sc (.int .u32 1955562222), .sc (.int .u32 2024104815), .sc (.int .u32 2227730452), .sc (.int .u32 2361852424), .sc (.int .u32 2428436474), .sc (.int .u32 2756734187), .sc (.int .u32 3204031479), .sc (.int .u32 3329325298)]) [] [])
theorem Jzu (f : Nat) (k : Res → Option Res) : JN tau JuU Try.f123 (Try.f123.body.get!) Jh2 [.ro] 0 [] [] k = JuV f k := by kernel_rfl
theorem JuW (f : Nat) : Ji (Try.f123.body.get!) Jh2 = [] := by kernel_rfl
theorem JuX (f : Nat) : ∀ q ∈ Ji (Try.f123.body.get!) Jh2, q.Ok tau Try.prog 0 := by
  rw [JuW f]; intro q hq; cases hq
theorem Jpq : Try.prog.funcs[123]? = some Try.f123 := by kernel_rfl
theorem Jpr : Try.f123.body = some (Try.f123.body.get!) := by kernel_rfl
theorem JuY : Enters Try.prog 123 := enters_of Jpq (by kernel_rfl) Jpr
noncomputable def JgA : List PV → List Ent → (Res → Option Res) → Option Res
  | [], [], k => JuV 0  k
  | _, _, _ => none
noncomputable def JuZ : Sig := { own := [], run := JgA }
theorem Ju0 : Jk tau Try.prog 123 JuZ := JV Js Jm7 Jt Jpq Jpr Jh2 [.ro] 0 [] JgA (JuX 0) fun xs es k res hr => by
  unfold JgA at hr
  split at hr
  · exact ⟨rfl, 0, (Jzu 0  _).trans hr⟩
  · cases hr
def N71 : Nat := 113
noncomputable def F71 : Fns := JH 123 JuZ (JH 122 Jpo (JH 124 Jkz F0))
theorem JgB : JA tau Try.prog F71 := ((JJ.add JkA Jpl).add Jrq JuL).add Ju0 JuY
noncomputable def Jcj : Code := Qy (Try.f71.body.get!) [1, 1, 1, 0, 1, 0, 0]
def XV : Nm := [(2, .any), (4, .any), (5, .any), (6, .any), (7, .any), (18, .any)]
def YS : Nm := [(2, .any), (4, .any), (7, .any)]
def Je1 : An := (.seq .leaf (.seq (.cond .leaf .leaf) (.seq (.block none (.seq .leaf (.seq .leaf (.seq .leaf (.seq .leaf .leaf))))) .leaf)))
noncomputable def Jck : Code := Qy (Try.f71.body.get!) [1, 1, 1, 1, 0, 1, 0, 0]
def XW : Nm := [(2, .any), (4, .any), (7, .any), (100, .any)]
def YT : Nm := [(4, .any), (7, .any)]
def Je2 : An := (.seq .leaf (.seq (.cond .leaf .leaf) (.seq (.block none (.seq .leaf .leaf)) .leaf)))
def Jrw (r0 : Q6) (r1 : Q6) : An := (.seq .leaf (.seq .leaf (.seq .leaf (.seq (.seq .leaf (.block none (.sum XV N71 r0))) (.seq (.seq .leaf (.block none (.sum XW N71 r1))) (.seq .leaf .leaf))))))
def VF (f : Nat) (rc : Int → List PV → List PV → List PV → List PV → List PV → Option Res) (k0 : List PV → List PV → List PV → Option Res) (v0 : Int) (v1 : List PV) (v2 : List PV) (v3 : List PV) (v4 : List PV) (v5 : List PV) : Option Res := bif decide (v0 < 64) then bif PV.isInt IntKind.u32 (Jn (PV.ar 113 v5) [4]) && true then bif PV.isInt IntKind.u32 (Jn (PV.ar 113 v5) [0]) && true then bif PV.isInt IntKind.u32 (Jn (PV.ar 113 v5) [7]) && true then bif PV.isInt IntKind.u32 (Jn (PV.ar 113 v5) [5]) && true then bif PV.isInt IntKind.u32 (Jn (PV.ar 113 v5) [6]) && true then bif decide (0 ≤ v0) && decide (v0 < zi 64) && true then bif PV.isInt IntKind.u32 (Jn (PV.ar 118 v4) [v0.toNat]) && true then bif decide (0 ≤ v0) && decide (v0 < zi 64) && true then bif PV.isInt IntKind.u32 (Jn (PV.ar 118 v3) [v0.toNat]) && true then bif PV.isInt IntKind.u32 (Jn (PV.ar 113 v5) [1]) && true then bif PV.isInt IntKind.u32 (Jn (PV.ar 113 v5) [2]) && true then bif PV.isInt IntKind.u32 (Jn (PV.ar 113 v5) [1]) && true then bif PV.isInt IntKind.u32 (Jn (PV.ar 113 v5) [2]) && true then bif PV.isInt IntKind.u32 (Jn (PV.ar 113 v5) [0]) && true then bif PV.isInt IntKind.u32 (Jn (PV.ar 113 v5) [1]) && true then bif PV.isInt IntKind.u32 (Jn (PV.ar 113 v5) [2]) && true then bif PV.isInt IntKind.u32 (Jn (PV.ar 113 v5) [3]) && true then bif PV.isInt IntKind.u32 (Jn (PV.ar 113 v5) [4]) && true then bif PV.isInt IntKind.u32 (Jn (PV.ar 113 v5) [5]) && true then bif PV.isInt IntKind.u32 (Jn (PV.ar 113 v5) [6]) && true then rc (IntKind.i64.wrap (v0 + 1)) v1 v2 v3 v4 ([.sc (.int .u32 (IntKind.u32.wrap (IntKind.u32.wrap (IntKind.u32.wrap (IntKind.u32.wrap (IntKind.u32.wrap ((Jn (PV.ar 113 v5) [7]).int + JE BinOp.xor IntKind.u32 (JE BinOp.xor IntKind.u32 (rr (Jn (PV.ar 113 v5) [4]).int 6) (rr (Jn (PV.ar 113 v5) [4]).int 11)) (rr (Jn (PV.ar 113 v5) [4]).int 25)) + JE BinOp.xor IntKind.u32 (JE BinOp.and IntKind.u32 (Jn (PV.ar 113 v5) [4]).int (Jn (PV.ar 113 v5) [5]).int) (JE BinOp.and IntKind.u32 (JE BinOp.xor IntKind.u32 (Int.ofNat (2 ^ IntKind.u32.bits - Nat.succ 0)) (Jn (PV.ar 113 v5) [4]).int) (Jn (PV.ar 113 v5) [6]).int)) + (Jn (PV.ar 118 v4) [v0.toNat]).int) + (Jn (PV.ar 118 v3) [v0.toNat]).int) + IntKind.u32.wrap (JE BinOp.xor IntKind.u32 (JE BinOp.xor IntKind.u32 (rr (Jn (PV.ar 113 v5) [0]).int 2) (rr (Jn (PV.ar 113 v5) [0]).int 13)) (rr (Jn (PV.ar 113 v5) [0]).int 22) + JE BinOp.xor IntKind.u32 (JE BinOp.xor IntKind.u32 (JE BinOp.and IntKind.u32 (Jn (PV.ar 113 v5) [0]).int (Jn (PV.ar 113 v5) [1]).int) (JE BinOp.and IntKind.u32 (Jn (PV.ar 113 v5) [0]).int (Jn (PV.ar 113 v5) [2]).int)) (JE BinOp.and IntKind.u32 (Jn (PV.ar 113 v5) [1]).int (Jn (PV.ar 113 v5) [2]).int))))), .sc (.int .u32 (Jn (PV.ar 113 v5) [0]).int), .sc (.int .u32 (Jn (PV.ar 113 v5) [1]).int), .sc (.int .u32 (Jn (PV.ar 113 v5) [2]).int), .sc (.int .u32 (IntKind.u32.wrap ((Jn (PV.ar 113 v5) [3]).int + IntKind.u32.wrap (IntKind.u32.wrap (IntKind.u32.wrap (IntKind.u32.wrap ((Jn (PV.ar 113 v5) [7]).int + JE BinOp.xor IntKind.u32 (JE BinOp.xor IntKind.u32 (rr (Jn (PV.ar 113 v5) [4]).int 6) (rr (Jn (PV.ar 113 v5) [4]).int 11)) (rr (Jn (PV.ar 113 v5) [4]).int 25)) + JE BinOp.xor IntKind.u32 (JE BinOp.and IntKind.u32 (Jn (PV.ar 113 v5) [4]).int (Jn (PV.ar 113 v5) [5]).int) (JE BinOp.and IntKind.u32 (JE BinOp.xor IntKind.u32 (Int.ofNat (2 ^ IntKind.u32.bits - Nat.succ 0)) (Jn (PV.ar 113 v5) [4]).int) (Jn (PV.ar 113 v5) [6]).int)) + (Jn (PV.ar 118 v4) [v0.toNat]).int) + (Jn (PV.ar 118 v3) [v0.toNat]).int)))), .sc (.int .u32 (Jn (PV.ar 113 v5) [4]).int), .sc (.int .u32 (Jn (PV.ar 113 v5) [5]).int), .sc (.int .u32 (Jn (PV.ar 113 v5) [6]).int)]) else none else none else none else none else none else none else none else none else none else none else none else none else none else none else none else none else none else none else none else none else k0 v1 v2 v5
def YU (f : Nat) (k0 : List PV → List PV → List PV → Option Res) : Nat → Int → List PV → List PV → List PV → List PV → List PV → Option Res
  | 0, _, _, _, _, _, _ => none
  | n + 1, v0, v1, v2, v3, v4, v5 => VF f (YU f k0 n) k0 v0 v1 v2 v3 v4 v5
theorem Jm8 (f : Nat) (k : Kont) (n : Nat) (v0 : Int) (v1 : List PV) (v2 : List PV) (v3 : List PV) (v4 : List PV) (v5 : List PV) : Jq tau 0 XV (fun s k => ev tau F71 0 0 Jcj (Je1 ) s k) (n + 1) (Je XV N71 [.ptr 1824 [], .ptr 1825 [], .ptr 1826 [], .ptr 1827 [], .ptr 1828 [], .sc (.int .i64 v0)] [(1824, .box false 113 (PV.ar 113 v1)), (1825, .box false 113 (PV.ar 113 v2)), (1826, .box false 118 (PV.ar 118 v3)), (1827, .box false 118 (PV.ar 118 v4)), (1828, .box false 113 (PV.ar 113 v5))]) (Jz tau 0 YS k) = VF f (fun v0 v1 v2 v3 v4 v5 => Jq tau 0 XV (fun s k => ev tau F71 0 0 Jcj (Je1 ) s k) n (Je XV N71 [.ptr 1824 [], .ptr 1825 [], .ptr 1826 [], .ptr 1827 [], .ptr 1828 [], .sc (.int .i64 v0)] [(1824, .box false 113 (PV.ar 113 v1)), (1825, .box false 113 (PV.ar 113 v2)), (1826, .box false 118 (PV.ar 118 v3)), (1827, .box false 118 (PV.ar 118 v4)), (1828, .box false 113 (PV.ar 113 v5))]) (Jz tau 0 YS k)) (fun x0 x1 x2 => k (Ex.exit 0) (Je YS N71 [.ptr 1824 [], .ptr 1825 [], .ptr 1826 []] [(1824, .box false 113 (PV.ar 113 x0)), (1825, .box false 113 (PV.ar 113 x1)), (1826, .box false 113 (PV.ar 113 x2))])) v0 v1 v2 v3 v4 v5 := by kernel_rfl
theorem Jh3 (f : Nat) (k : Kont) : ∀ (n : Nat) (v0 : Int) (v1 : List PV) (v2 : List PV) (v3 : List PV) (v4 : List PV) (v5 : List PV), Jq tau 0 XV (fun s k => ev tau F71 0 0 Jcj (Je1 ) s k) n (Je XV N71 [.ptr 1824 [], .ptr 1825 [], .ptr 1826 [], .ptr 1827 [], .ptr 1828 [], .sc (.int .i64 v0)] [(1824, .box false 113 (PV.ar 113 v1)), (1825, .box false 113 (PV.ar 113 v2)), (1826, .box false 118 (PV.ar 118 v3)), (1827, .box false 118 (PV.ar 118 v4)), (1828, .box false 113 (PV.ar 113 v5))]) (Jz tau 0 YS k) = YU f (fun x0 x1 x2 => k (Ex.exit 0) (Je YS N71 [.ptr 1824 [], .ptr 1825 [], .ptr 1826 []] [(1824, .box false 113 (PV.ar 113 x0)), (1825, .box false 113 (PV.ar 113 x1)), (1826, .box false 113 (PV.ar 113 x2))])) n v0 v1 v2 v3 v4 v5 | 0, _, _, _, _, _, _ => rfl | n + 1, v0, v1, v2, v3, v4, v5 => (Jm8 f k n v0 v1 v2 v3 v4 v5).trans (congrArg (fun r => VF f r (fun x0 x1 x2 => k (Ex.exit 0) (Je YS N71 [.ptr 1824 [], .ptr 1825 [], .ptr 1826 []] [(1824, .box false 113 (PV.ar 113 x0)), (1825, .box false 113 (PV.ar 113 x1)), (1826, .box false 113 (PV.ar 113 x2))])) v0 v1 v2 v3 v4 v5) (by funext v0 v1 v2 v3 v4 v5; exact Jh3 f k n v0 v1 v2 v3 v4 v5))
def Jcl (f : Nat) : List PV → List (Nat × Ent) → Kont → Option Res
  | [.ptr 1824 [], .ptr 1825 [], .ptr 1826 [], .ptr 1827 [], .ptr 1828 [],
  PV.sc
    (Value.int IntKind.i64
      v0)], [(1824, .box false 113 (PV.ar 113 v1)), (1825, .box false 113 (PV.ar 113 v2)), (1826, .box false 118 (PV.ar 118 v3)), (1827, .box false 118 (PV.ar 118 v4)),
  (1828,
    Ent.box false 113
      (PV.ar 113
        v5))], k => YU f (fun x0 x1 x2 => k (Ex.exit
  0) (Je YS N71 [.ptr 1824 [], .ptr 1825 [],
  PV.ptr 1826 []] [(1824, .box false 113 (PV.ar 113 x0)), (1825, .box false 113 (PV.ar 113 x1)), (1826, .box false 113 (PV.ar 113 x2))])) f v0 v1 v2 v3 v4 v5
  | _, _, _ => none
theorem Jrx (f : Nat) : Ji Jcj Je1 = [] := by kernel_rfl
theorem Ju1 (f : Nat) : (Item.l Jcj XV N71 (Jcl f)).Ok tau Try.prog 0 := JM Js JgB Jt (x := Je1) (nm2 := YS) (Jr _ _ (by rw [Jrx f]; intro q hq; cases hq)) fun vs hp k res hr => by
  unfold Jcl at hr
  split at hr
  · exact ⟨f, 0, (Jh3 f _ f _ _ _ _ _ _ ).trans hr⟩
  · cases hr
def VG (f : Nat) (rc : Int → List PV → List PV → List PV → Option Res) (k0 : List PV → List PV → Option Res) (v0 : Int) (v1 : List PV) (v2 : List PV) (v3 : List PV) : Option Res := bif decide (v0 < 8) then bif decide (0 ≤ v0) && decide (v0 < zi 8) && true then bif PV.isInt IntKind.u32 (Jn (PV.ar 113 v3) [v0.toNat]) && true then bif decide (0 ≤ v0) && decide (v0 < zi 8) && true then bif PV.isInt IntKind.u32 (Jn (PV.ar 113 v1) [v0.toNat]) && true then bif decide (0 ≤ v0) && decide (v0 < zi 8) && true then rc (IntKind.i64.wrap (v0 + 1)) v1 v2 (v3.set v0.toNat (.sc (.int .u32 (IntKind.u32.wrap ((Jn (PV.ar 113 v3) [v0.toNat]).int + (Jn (PV.ar 113 v1) [v0.toNat]).int))))) else none else none else none else none else none else k0 v2 v3
def YV (f : Nat) (k0 : List PV → List PV → Option Res) : Nat → Int → List PV → List PV → List PV → Option Res
  | 0, _, _, _, _ => none
  | n + 1, v0, v1, v2, v3 => VG f (YV f k0 n) k0 v0 v1 v2 v3
theorem Jm9 (f : Nat) (k : Kont) (n : Nat) (v0 : Int) (v1 : List PV) (v2 : List PV) (v3 : List PV) : Jq tau 0 XW (fun s k => ev tau F71 0 0 Jck (Je2 ) s k) (n + 1) (Je XW N71 [.ptr 1824 [], .ptr 1825 [], .ptr 1826 [], .sc (.int .i64 v0)] [(1824, .box false 113 (PV.ar 113 v1)), (1825, .box false 113 (PV.ar 113 v2)), (1826, .box false 113 (PV.ar 113 v3))]) (Jz tau 0 YT k) = VG f (fun v0 v1 v2 v3 => Jq tau 0 XW (fun s k => ev tau F71 0 0 Jck (Je2 ) s k) n (Je XW N71 [.ptr 1824 [], .ptr 1825 [], .ptr 1826 [], .sc (.int .i64 v0)] [(1824, .box false 113 (PV.ar 113 v1)), (1825, .box false 113 (PV.ar 113 v2)), (1826, .box false 113 (PV.ar 113 v3))]) (Jz tau 0 YT k)) (fun x0 x1 => k (Ex.exit 2) (Je YT N71 [.ptr 1824 [], .ptr 1825 []] [(1824, .box false 113 (PV.ar 113 x0)), (1825, .box false 113 (PV.ar 113 x1))])) v0 v1 v2 v3 := by kernel_rfl
theorem Jh4 (f : Nat) (k : Kont) : ∀ (n : Nat) (v0 : Int) (v1 : List PV) (v2 : List PV) (v3 : List PV), Jq tau 0 XW (fun s k => ev tau F71 0 0 Jck (Je2 ) s k) n (Je XW N71 [.ptr 1824 [], .ptr 1825 [], .ptr 1826 [], .sc (.int .i64 v0)] [(1824, .box false 113 (PV.ar 113 v1)), (1825, .box false 113 (PV.ar 113 v2)), (1826, .box false 113 (PV.ar 113 v3))]) (Jz tau 0 YT k) = YV f (fun x0 x1 => k (Ex.exit 2) (Je YT N71 [.ptr 1824 [], .ptr 1825 []] [(1824, .box false 113 (PV.ar 113 x0)), (1825, .box false 113 (PV.ar 113 x1))])) n v0 v1 v2 v3 | 0, _, _, _, _ => rfl | n + 1, v0, v1, v2, v3 => (Jm9 f k n v0 v1 v2 v3).trans (congrArg (fun r => VG f r (fun x0 x1 => k (Ex.exit 2) (Je YT N71 [.ptr 1824 [], .ptr 1825 []] [(1824, .box false 113 (PV.ar 113 x0)), (1825, .box false 113 (PV.ar 113 x1))])) v0 v1 v2 v3) (by funext v0 v1 v2 v3; exact Jh4 f k n v0 v1 v2 v3))
def Jcm (f : Nat) : List PV → List (Nat × Ent) → Kont → Option Res
  | [.ptr 1824 [], .ptr 1825 [], .ptr 1826 [],
  PV.sc
    (Value.int IntKind.i64
      v0)], [(1824, .box false 113 (PV.ar 113 v1)), (1825, .box false 113 (PV.ar 113 v2)),
  (1826,
    Ent.box false 113
      (PV.ar 113
        v3))], k => YV f (fun x0 x1 => k (Ex.exit
  2) (Je YT N71 [.ptr 1824 [], .ptr 1825 []] [(1824, .box false 113 (PV.ar 113 x0)), (1825, .box false 113 (PV.ar 113 x1))])) f v0 v1 v2 v3
  | _, _, _ => none
theorem Jry (f : Nat) : Ji Jck Je2 = [] := by kernel_rfl
theorem Ju2 (f : Nat) : (Item.l Jck XW N71 (Jcm f)).Ok tau Try.prog 0 := JM Js JgB Jt (x := Je2) (nm2 := YT) (Jr _ _ (by rw [Jry f]; intro q hq; cases hq)) fun vs hp k res hr => by
  unfold Jcm at hr
  split at hr
  · exact ⟨f, 0, (Jh4 f _ f _ _ _ _ ).trans hr⟩
  · cases hr
def g71 (f : Nat) (s : List PV) (nl : Bool) (fl : Bool) (b : List PV) (k : Res → Option Res) : Option Res := bif Jd IntKind.u8 b && decide (b.length = 64) then YU f (fun x0_0 x1_0 x2_0 => YV f (fun x0_1 x1_1 => k (Res.mk (.ar 113 x1_1) [] [])) f (0) x0_0 x1_0 x2_0) f (0) s ([.sc (.int .u32 0), .sc (.int .u32 0), .sc (.int .u32 0), .sc (.int .u32 0), .sc (.int .u32 0), .sc (.int .u32 0), .sc (.int .u32 0), .sc (.int .u32 0)]) (pu IntKind.u32 (Qc (Jh b))) ([.sc (.int .u32 1116352408), .sc (.int .u32 1899447441), .sc (.int .u32 3049323471), .sc (.int .u32 3921009573), .sc (.int .u32 961987163), .sc (.int .u32 1508970993), .sc (.int .u32 2453635748), .sc (.int .u32 2870763221), .sc (.int .u32 3624381080), .sc (.int .u32 310598401), .sc (.int .u32 607225278), .sc (.int .u32 1426881987), .sc (.int .u32 1925078388), .sc (.int .u32 2162078206), .sc (.int .u32 2614888103), .sc (.int .u32 3248222580), .sc (.int .u32 3835390401), .sc (.int .u32 4022224774), .sc (.int .u32 264347078), .sc (.int .u32 604807628), .sc (.int .u32 770255983), .sc (.int .u32 1249150122), .sc (.int .u32 1555081692), .sc (.int .u32 1996064986), .sc (.int .u32 2554220882), .sc (.int .u32 2821834349), .sc (.int .u32 2952996808), .sc (.int .u32 3210313671), .sc (.int .u32 3336571891), .sc (.int .u32 3584528711), .sc (.int .u32 113926993), .sc (.int .u32 338241895), .sc (.int .u32 666307205), .sc (.int .u32 773529912), .sc (.int .u32 1294757372), .sc (.int .u32 1396182291), .sc (.int .u32 1695183700), .sc (.int .u32 1986661051), .sc (.int .u32 2177026350), .sc (.int .u32 2456956037), .sc (.int .u32 2730485921), .sc (.int .u32 2820302411), .sc (.int .u32 3259730800), .sc (.int .u32 3345764771), .sc (.int .u32 3516065817), .sc (.int .u32 3600352804), .sc (.int .u32 4094571909), .sc (.int .u32 275423344), .sc (.int .u32 430227734), .sc (.int .u32 506948616), .sc (.int .u32 659060556), .sc (.int .u32 883997877), .sc (.int .u32 958139571), .sc (.int .u32 1322822218), .sc (.int .u32 1537002063), .sc (.int .u32 1747873779), .sc (.int .u32 1955562222), .sc (.int .u32 2024104815), .sc (.int .u32 2227730452), .sc (.int .u32 2361852424), .sc (.int .u32 2428436474), .sc (.int .u32 2756734187), .sc (.int .u32 3204031479), .sc (.int .u32 3329325298)]) s else none
theorem e71 (f : Nat) (s : List PV) (nl : Bool) (fl : Bool) (b : List PV) (k : Res → Option Res) : JN tau F71 Try.f71 (Try.f71.body.get!) (Jrw (Jcl f) (Jcm f)) [] 0 [.ar 113 s, .ro 5 nl fl b] [] k = g71 f s nl fl b k := by kernel_rfl
theorem Jzv (f : Nat) : Ji (Try.f71.body.get!) (Jrw (Jcl f) (Jcm f)) = [.l Jcj XV N71 (Jcl f), .l Jck XW N71 (Jcm f)] := by kernel_rfl
theorem Jzw (f : Nat) : ∀ q ∈ Ji (Try.f71.body.get!) (Jrw (Jcl f) (Jcm f)), q.Ok tau Try.prog 0 := by
  rw [Jzv f]; simp only [List.forall_mem_cons, List.not_mem_nil, false_implies, implies_true, and_true]; exact ⟨Ju1 f, Ju2 f⟩
theorem Ju3 : Try.prog.funcs[71]? = some Try.f71 := by kernel_rfl
theorem Ju4 : Try.f71.body = some (Try.f71.body.get!) := by kernel_rfl
theorem Jzx : Enters Try.prog 71 := enters_of Ju3 (by kernel_rfl) Ju4
-- FN (sha.state).add
theorem YW {R : List Int} (h : R.length = 8) (j : Nat) (hj : j < 8) : (pu .u32 R).getD j .top = .sc (.int .u32 (R.getD j 0)) := YJ (by omega)
theorem Jps (W s : List Int) (hW : W.length = 64) (hs : s.length = 8) (f : Nat) (k0 : List PV → List PV → List PV → Option Res) (a b : List PV) : ∀ (d i n : Nat), i + d = 64 → d < n →
    YU f k0 n (i : Int) a b (pu .u32 W) (pu .u32 kks) (pu .u32 (YQ W s i)) = k0 a b (pu .u32 (YQ W s 64))
  | 0, i, n + 1, h, hn => by
      obtain rfl : i = 64 := by omega
      simp only [YU, VF]
      exact Jx (by decide)
  | d + 1, i, n + 1, h, hn => by
      have hl := W8 W s hs i
      have h1 : IntKind.i64.wrap ((i : Int) + 1) = ((i + 1 : Nat) : Int) := by rw [wrap_i64 (by omega) (by omega)]; omega
      have hk : (pu .u32 kks).getD i .top = .sc (.int .u32 (kks.getD i 0)) := YJ (by show i < 64; omega)
      have hw : (pu .u32 W).getD i .top = .sc (.int .u32 (W.getD i 0)) := YJ (by omega)
      have c1 : decide ((i : Int) < 64) = true := by simp; omega
      have c2 : decide (0 ≤ (i : Int)) = true := by simp
      have c3 : decide ((i : Int) < zi 64) = true := by simp; omega
      simp only [YU, VF, Ws, Int.toNat_natCast, h1, hk, hw, c1, c2, c3, YW hl 0 (by omega), YW hl 1 (by omega), YW hl 2 (by omega), YW hl 3 (by omega), YW hl 4 (by omega), YW hl 5 (by omega), YW hl 6 (by omega), YW hl 7 (by omega), PV.isInt, PV.int, decide_true, Bool.and_true, cond_true]
      exact Jps W s hW hs f k0 a b d (i + 1) n (by omega) (by omega)
theorem Jpt (t s : List Int) (ht : t.length = 8) (hs : s.length = 8) (f : Nat) (k0 : List PV → List PV → Option Res) (a : List PV) : ∀ (d i n : Nat), i + d = 8 → d < n →
    YV f k0 n (i : Int) (pu .u32 s) a (pu .u32 (Qs (fun j => ww (t.getD j 0 + s.getD j 0)) t i)) = k0 a (pu .u32 (Qs (fun j => ww (t.getD j 0 + s.getD j 0)) t 8))
  | 0, i, n + 1, h, hn => by
      obtain rfl : i = 8 := by omega
      simp only [YV, VG]
      exact Jx (by decide)
  | d + 1, i, n + 1, h, hn => by
      have hl : (Qs (fun j => ww (t.getD j 0 + s.getD j 0)) t i).length = 8 := by rw [XU _ _ _ (by omega), ht]
      have h1 : IntKind.i64.wrap ((i : Int) + 1) = ((i + 1 : Nat) : Int) := by rw [wrap_i64 (by omega) (by omega)]; omega
      have c1 : decide ((i : Int) < 8) = true := by simp; omega
      have c2 : decide (0 ≤ (i : Int)) = true := by simp
      have c3 : decide ((i : Int) < zi 8) = true := by simp; omega
      have g1 : ((i : Int)).toNat = i := by omega
      simp only [YV, VG, Ws, g1, h1, c1, c2, c3, YW hl i (by omega), YW hs i (by omega), Gv _ t i (by omega), PV.isInt, PV.int, decide_true, Bool.and_true, cond_true, Wn]
      have := Jpt t s ht hs f k0 a d (i + 1) n (by omega) (by omega)
      rw [← Qo _ t i (by omega)] at this
      exact this
theorem Jrz (s bs : List Int) (hs : s.length = 8) (hb : bs.length = 64) (nl fl : Bool) (k : Res → Option Res) : g71 100 (pu .u32 s) nl fl (pu .u8 bs) k = k ⟨.ar 113 (pu .u32 (JeZ s bs)), [], []⟩ := by
  have hW : (Qc bs).length = 64 := JU bs 48
  have hc : (Jd .u8 (pu .u8 bs) && decide ((pu .u8 bs).length = 64)) = true := by simp [hb]
  refine (Jb hc).trans ?_
  rw [Qf]
  have h0 : ∀ k0 a b, YU 100 k0 100 0 a b (pu .u32 (Qc bs)) (pu .u32 kks) (pu .u32 s) = k0 a b (pu .u32 (YQ (Qc bs) s 64)) := fun k0 a b => Jps (Qc bs) s hW hs 100 k0 a b 64 0 100 (by omega) (by omega)
  have ht := W8 (Qc bs) s hs 64
  have h1 : ∀ k0 a, YV 100 k0 100 0 (pu .u32 s) a (pu .u32 (YQ (Qc bs) s 64)) = k0 a (pu .u32 (JeZ s bs)) := by
    intro k0 a
    have := Jpt (YQ (Qc bs) s 64) s ht hs 100 k0 a 8 0 100 (by omega) (by omega)
    rw [Qz] at this
    refine this.trans ?_
    have h2 := QP (fun j => ww ((YQ (Qc bs) s 64).getD j 0 + s.getD j 0)) (YQ (Qc bs) s 64)
    rw [ht] at h2; rw [h2]; rfl
  exact (h0 _ _ _).trans (h1 _ _)
def JgC : List PV → List Ent → (Res → Option Res) → Option Res
  | [.ar 113 s, .ro 5 nl fl b], [], k => bif (Jd .u32 s && decide (s.length = 8)) && (Jd .u8 b && decide (b.length = 64)) then k ⟨.ar 113 (pu .u32 (JeZ (Jh s) (Jh b))), [], []⟩ else none
  | _, _, _ => none
def Ju5 : Sig := { own := [], run := JgC }
theorem Ju6 : Jk tau Try.prog 71 Ju5 := JV Js JgB Jt Ju3 Ju4 _ [] 0 [] JgC (Jzw 100) fun xs es k res hr => by
  unfold JgC at hr
  split at hr
  · obtain ⟨hc, hr⟩ := JL hr
    simp only [Bool.and_eq_true, decide_eq_true_eq] at hc
    refine ⟨rfl, 0, (e71 100 _ _ _ _ _).trans ?_⟩
    rw [Qb hc.2.1, Qb hc.1.1, Jrz _ _ (by simpa using hc.1.2) (by simpa using hc.2.2)]
    exact hr
  · cases hr
noncomputable def Ju7 : Fns := F0
theorem Jna : JA tau Try.prog Ju7 := JJ
def Jh5 : An := (.seq .leaf (.seq (.seq .leaf (.cond .leaf .leaf)) (.seq (.seq .leaf (.seq .leaf (.cond .leaf .leaf))) (.seq .leaf .leaf))))
noncomputable def Ju8 (f : Nat) (n : Int) (k : Res → Option Res) : Option Res := bif decide (n < 0) then none else bif decide (IntKind.i64.wrap (n - IntKind.i64.wrap (zi 0 - zi 0)) > 0) then bif decide (0 ≤ IntKind.i64.wrap (n - IntKind.i64.wrap (zi 0 - zi 0))) && Jj (IntKind.i64.wrap (n - IntKind.i64.wrap (zi 0 - zi 0))).toNat 1 && true then k (Res.mk (.ow 5 16 [] 0 0 none) [] [.vec false 5 (IntKind.i64.wrap (n - IntKind.i64.wrap (zi 0 - zi 0)) == 0) (List.replicate (IntKind.i64.wrap (n - IntKind.i64.wrap (zi 0 - zi 0))).toNat (.sc (.int .u8 0)))]) else none else k (Res.mk (.ro 5 true true []) [] [])
theorem Jzy (f : Nat) (n : Int) (k : Res → Option Res) : JN tau Ju7 Try.f121 (Try.f121.body.get!) Jh5 [] 0 [.ro 5 true true [], .sc (.int .i64 n)] [] k = Ju8 f n k := by kernel_rfl
theorem Ju9 (f : Nat) : Ji (Try.f121.body.get!) Jh5 = [] := by kernel_rfl
theorem Jva (f : Nat) : ∀ q ∈ Ji (Try.f121.body.get!) Jh5, q.Ok tau Try.prog 0 := by
  rw [Ju9 f]; intro q hq; cases hq
theorem Jpu : Try.prog.funcs[121]? = some Try.f121 := by kernel_rfl
theorem Jpv : Try.f121.body = some (Try.f121.body.get!) := by kernel_rfl
theorem Jvb : Enters Try.prog 121 := enters_of Jpu (by kernel_rfl) Jpv
noncomputable def JgD : List PV → List Ent → (Res → Option Res) → Option Res
  | [.ro 5 true true [], .sc (.int .i64 n)], [], k => Ju8 0 n k
  | _, _, _ => none
noncomputable def Jvc : Sig := { own := [], run := JgD }
theorem Jvd : Jk tau Try.prog 121 Jvc := JV Js Jna Jt Jpu Jpv Jh5 [] 0 [] JgD (Jva 0) fun xs es k res hr => by
  unfold JgD at hr
  split at hr
  · exact ⟨rfl, 0, (Jzy 0 _  _).trans hr⟩
  · cases hr
def N70 : Nat := 36
noncomputable def F70 : Fns := JH 121 Jvc (F0)
theorem JgE : JA tau Try.prog F70 := (JJ).add Jvd Jvb
noncomputable def Jcn : Code := Qy (Try.f70.body.get!) [1, 1, 0, 1, 0, 0]
def XX : Nm := [(0, .any), (3, .any), (9, .any), (10, .any), (11, .any)]
def YX : Nm := [(0, .any), (3, .any)]
def Je3 : An := (.seq .leaf (.seq (.cond .leaf .leaf) (.seq (.block none (.seq .leaf (.seq .leaf (.seq .leaf (.cond .leaf .leaf))))) .leaf)))
noncomputable def Jco : Code := Qy (Try.f70.body.get!) [1, 1, 1, 1, 0, 1, 0, 0]
def XY : Nm := [(6, .own), (25, .any), (26, .any), (27, .any)]
def YY : Nm := [(6, .any)]
def Je4 : An := (.seq .leaf (.seq (.cond .leaf .leaf) (.seq (.block none (.seq .leaf .leaf)) .leaf)))
def Jnb (r0 : Q6) (r1 : Q6) : An := (.seq .leaf (.seq .leaf (.seq (.seq .leaf (.block none (.sum XX N70 r0))) (.seq .leaf (.seq (.seq .leaf (.block none (.sum XY N70 r1))) (.seq .leaf .leaf))))))
noncomputable def VH (f : Nat) (rc : Bool → Bool → List PV → Int → Bool → Bool → List PV → Int → Int → Option Res) (k0 : Bool → Bool → List PV → Int → Option Res) (v0 : Bool) (v1 : Bool) (v2 : List PV) (v3 : Int) (v4 : Bool) (v5 : Bool) (v6 : List PV) (v7 : Int) (v8 : Int) : Option Res := bif decide (v8 < v7) then bif decide (0 ≤ v8) && decide (v8 < zi v6.length) && PV.isRo 5 (v6.getD v8.toNat PV.top) && true then bif decide (IntKind.i64.wrap (v3 + zi (v6.getD v8.toNat PV.top).els.length) < 0) then none else rc v0 v1 v2 (IntKind.i64.wrap (v3 + zi (v6.getD v8.toNat PV.top).els.length)) v4 v5 v6 v7 (IntKind.i64.wrap (v8 + 1)) else none else k0 v0 v1 v2 v3
noncomputable def Z5 (f : Nat) (k0 : Bool → Bool → List PV → Int → Option Res) : Nat → Bool → Bool → List PV → Int → Bool → Bool → List PV → Int → Int → Option Res
  | 0, _, _, _, _, _, _, _, _, _ => none
  | n + 1, v0, v1, v2, v3, v4, v5, v6, v7, v8 => VH f (Z5 f k0 n) k0 v0 v1 v2 v3 v4 v5 v6 v7 v8
theorem Jnc (f : Nat) (k : Kont) (n : Nat) (v0 : Bool) (v1 : Bool) (v2 : List PV) (v3 : Int) (v4 : Bool) (v5 : Bool) (v6 : List PV) (v7 : Int) (v8 : Int) : Jq tau 0 XX (fun s k => ev tau F70 0 0 Jcn (Je3 ) s k) (n + 1) (Je XX N70 [.ro 29 v0 v1 v2, .sc (.int .i64 v3), .ro 29 v4 v5 v6, .sc (.int .i64 v7), .sc (.int .i64 v8)] []) (Jz tau 0 YX k) = VH f (fun v0 v1 v2 v3 v4 v5 v6 v7 v8 => Jq tau 0 XX (fun s k => ev tau F70 0 0 Jcn (Je3 ) s k) n (Je XX N70 [.ro 29 v0 v1 v2, .sc (.int .i64 v3), .ro 29 v4 v5 v6, .sc (.int .i64 v7), .sc (.int .i64 v8)] []) (Jz tau 0 YX k)) (fun x0 x1 x2 x3 => k (Ex.exit 0) (Je YX N70 [.ro 29 x0 x1 x2, .sc (.int .i64 x3)] [])) v0 v1 v2 v3 v4 v5 v6 v7 v8 := by kernel_rfl
theorem Jh6 (f : Nat) (k : Kont) : ∀ (n : Nat) (v0 : Bool) (v1 : Bool) (v2 : List PV) (v3 : Int) (v4 : Bool) (v5 : Bool) (v6 : List PV) (v7 : Int) (v8 : Int), Jq tau 0 XX (fun s k => ev tau F70 0 0 Jcn (Je3 ) s k) n (Je XX N70 [.ro 29 v0 v1 v2, .sc (.int .i64 v3), .ro 29 v4 v5 v6, .sc (.int .i64 v7), .sc (.int .i64 v8)] []) (Jz tau 0 YX k) = Z5 f (fun x0 x1 x2 x3 => k (Ex.exit 0) (Je YX N70 [.ro 29 x0 x1 x2, .sc (.int .i64 x3)] [])) n v0 v1 v2 v3 v4 v5 v6 v7 v8 | 0, _, _, _, _, _, _, _, _, _ => rfl | n + 1, v0, v1, v2, v3, v4, v5, v6, v7, v8 => (Jnc f k n v0 v1 v2 v3 v4 v5 v6 v7 v8).trans (congrArg (fun r => VH f r (fun x0 x1 x2 x3 => k (Ex.exit 0) (Je YX N70 [.ro 29 x0 x1 x2, .sc (.int .i64 x3)] [])) v0 v1 v2 v3 v4 v5 v6 v7 v8) (by funext v0 v1 v2 v3 v4 v5 v6 v7 v8; exact Jh6 f k n v0 v1 v2 v3 v4 v5 v6 v7 v8))
noncomputable def Ja9 (f : Nat) : List PV → List (Nat × Ent) → Kont → Option Res
  | [.ro 29 v0 v1 v2, .sc (.int .i64 v3), .ro 29 v4 v5 v6, .sc (.int .i64 v7),
  .sc (.int .i64 v8)], [], k => Z5 f (fun x0 x1 x2 x3 => k (Ex.exit 0) (Je YX N70 [.ro 29 x0 x1 x2, .sc (.int .i64 x3)] [])) f v0 v1 v2 v3 v4 v5 v6 v7 v8
  | _, _, _ => none
theorem JrA (f : Nat) : Ji Jcn Je3 = [] := by kernel_rfl
theorem Jve (f : Nat) : (Item.l Jcn XX N70 (Ja9 f)).Ok tau Try.prog 0 := JM Js JgE Jt (x := Je3) (nm2 := YX) (Jr _ _ (by rw [JrA f]; intro q hq; cases hq)) fun vs hp k res hr => by
  unfold Ja9 at hr
  split at hr
  · exact ⟨f, 0, (Jh6 f _ f _ _ _ _ _ _ _ _ _ ).trans hr⟩
  · cases hr
noncomputable def VI (f : Nat) (rc : Nat → Bool → Bool → List PV → Int → Int → Bool → List PV → Option Res) (k0 : Nat → Bool → List PV → Option Res) (v0 : Nat) (v1 : Bool) (v2 : Bool) (v3 : List PV) (v4 : Int) (v5 : Int) (v6 : Bool) (v7 : List PV) : Option Res := bif decide (v5 < v4) then bif decide (0 ≤ v5) && decide (v5 < zi v3.length) && PV.isRo 5 (v3.getD v5.toNat PV.top) && true then bif Jj (v0 + (v3.getD v5.toNat PV.top).els.length) 1 && true then rc (v0 + (v3.getD v5.toNat PV.top).els.length) v1 v2 v3 v4 (IntKind.i64.wrap (v5 + 1)) (v6 && (v3.getD v5.toNat PV.top).els.isEmpty) (List.take v0 v7 ++ (v3.getD v5.toNat PV.top).els) else none else none else k0 v0 v6 v7
noncomputable def Xm (f : Nat) (k0 : Nat → Bool → List PV → Option Res) : Nat → Nat → Bool → Bool → List PV → Int → Int → Bool → List PV → Option Res
  | 0, _, _, _, _, _, _, _, _ => none
  | n + 1, v0, v1, v2, v3, v4, v5, v6, v7 => VI f (Xm f k0 n) k0 v0 v1 v2 v3 v4 v5 v6 v7
theorem Jnd (f : Nat) (k : Kont) (n : Nat) (v0 : Nat) (v1 : Bool) (v2 : Bool) (v3 : List PV) (v4 : Int) (v5 : Int) (v6 : Bool) (v7 : List PV) : Jq tau 0 XY (fun s k => ev tau F70 0 0 Jco (Je4 ) s k) (n + 1) (Je XY N70 [.ow 5 592 [] 0 v0 none, .ro 29 v1 v2 v3, .sc (.int .i64 v4), .sc (.int .i64 v5)] [(592, .vec false 5 v6 v7)]) (Jz tau 0 YY k) = VI f (fun v0 v1 v2 v3 v4 v5 v6 v7 => Jq tau 0 XY (fun s k => ev tau F70 0 0 Jco (Je4 ) s k) n (Je XY N70 [.ow 5 592 [] 0 v0 none, .ro 29 v1 v2 v3, .sc (.int .i64 v4), .sc (.int .i64 v5)] [(592, .vec false 5 v6 v7)]) (Jz tau 0 YY k)) (fun x0 x1 x2 => k (Ex.exit 2) (Je YY N70 [.ow 5 592 [] 0 x0 none] [(592, .vec false 5 x1 x2)])) v0 v1 v2 v3 v4 v5 v6 v7 := by kernel_rfl
theorem Jh7 (f : Nat) (k : Kont) : ∀ (n : Nat) (v0 : Nat) (v1 : Bool) (v2 : Bool) (v3 : List PV) (v4 : Int) (v5 : Int) (v6 : Bool) (v7 : List PV), Jq tau 0 XY (fun s k => ev tau F70 0 0 Jco (Je4 ) s k) n (Je XY N70 [.ow 5 592 [] 0 v0 none, .ro 29 v1 v2 v3, .sc (.int .i64 v4), .sc (.int .i64 v5)] [(592, .vec false 5 v6 v7)]) (Jz tau 0 YY k) = Xm f (fun x0 x1 x2 => k (Ex.exit 2) (Je YY N70 [.ow 5 592 [] 0 x0 none] [(592, .vec false 5 x1 x2)])) n v0 v1 v2 v3 v4 v5 v6 v7 | 0, _, _, _, _, _, _, _, _ => rfl | n + 1, v0, v1, v2, v3, v4, v5, v6, v7 => (Jnd f k n v0 v1 v2 v3 v4 v5 v6 v7).trans (congrArg (fun r => VI f r (fun x0 x1 x2 => k (Ex.exit 2) (Je YY N70 [.ow 5 592 [] 0 x0 none] [(592, .vec false 5 x1 x2)])) v0 v1 v2 v3 v4 v5 v6 v7) (by funext v0 v1 v2 v3 v4 v5 v6 v7; exact Jh7 f k n v0 v1 v2 v3 v4 v5 v6 v7))
noncomputable def Jba (f : Nat) : List PV → List (Nat × Ent) → Kont → Option Res
  | [.ow 5 592 [] 0 v0 none, .ro 29 v1 v2 v3, .sc (.int .i64 v4),
  PV.sc
    (Value.int IntKind.i64
      v5)], [(592, .vec false 5 v6 v7)], k => Xm f (fun x0 x1 x2 => k (Ex.exit 2) (Je YY N70 [.ow 5 592 [] 0 x0 none] [(592, .vec false 5 x1 x2)])) f v0 v1 v2 v3 v4 v5 v6 v7
  | _, _, _ => none
theorem JrB (f : Nat) : Ji Jco Je4 = [] := by kernel_rfl
theorem Jvf (f : Nat) : (Item.l Jco XY N70 (Jba f)).Ok tau Try.prog 0 := JM Js JgE Jt (x := Je4) (nm2 := YY) (Jr _ _ (by rw [JrB f]; intro q hq; cases hq)) fun vs hp k res hr => by
  unfold Jba at hr
  split at hr
  · exact ⟨f, 0, (Jh7 f _ f _ _ _ _ _ _ _ _ ).trans hr⟩
  · cases hr
noncomputable def g70 (f : Nat) (slices_z : Bool) (slices_f : Bool) (slices : List PV) (k : Res → Option Res) : Option Res := Z5 f (fun x0_0 x1_0 x2_0 x3_0 => bif decide (x3_0 < 0) then none else bif decide (IntKind.i64.wrap (x3_0 - IntKind.i64.wrap (zi 0 - zi 0)) > 0) then bif decide (0 ≤ IntKind.i64.wrap (x3_0 - IntKind.i64.wrap (zi 0 - zi 0))) && Jj (IntKind.i64.wrap (x3_0 - IntKind.i64.wrap (zi 0 - zi 0))).toNat 1 && true then Xm f (fun x0_1 x1_1 x2_1 => k (Res.mk (.ow 5 16 [] 0 x0_1 none) [] [.vec false 5 x1_1 x2_1])) f (0) x0_0 x1_0 x2_0 (zi x2_0.length) (0) (IntKind.i64.wrap (x3_0 - IntKind.i64.wrap (zi 0 - zi 0)) == 0) (List.replicate (IntKind.i64.wrap (x3_0 - IntKind.i64.wrap (zi 0 - zi 0))).toNat (.sc (.int .u8 0))) else none else Xm f (fun x0_2 x1_2 x2_2 => k (Res.mk (.ow 5 16 [] 0 x0_2 none) [] [.vec false 5 x1_2 x2_2])) f (0) x0_0 x1_0 x2_0 (zi x2_0.length) (0) true ([])) f slices_z slices_f slices (0) slices_z slices_f slices (zi slices.length) (0)
theorem e70 (f : Nat) (slices_z : Bool) (slices_f : Bool) (slices : List PV) (k : Res → Option Res) : JN tau F70 Try.f70 (Try.f70.body.get!) (Jnb (Ja9 f) (Jba f)) [] 0 [.ro 29 slices_z slices_f slices] [] k = g70 f slices_z slices_f slices k := by kernel_rfl
theorem Jzz (f : Nat) : Ji (Try.f70.body.get!) (Jnb (Ja9 f) (Jba f)) = [.l Jcn XX N70 (Ja9 f), .l Jco XY N70 (Jba f)] := by kernel_rfl
theorem JzA (f : Nat) : ∀ q ∈ Ji (Try.f70.body.get!) (Jnb (Ja9 f) (Jba f)), q.Ok tau Try.prog 0 := by
  rw [Jzz f]; simp only [List.forall_mem_cons, List.not_mem_nil, false_implies, implies_true, and_true]; exact ⟨Jve f, Jvf f⟩
theorem Jvg : Try.prog.funcs[70]? = some Try.f70 := by kernel_rfl
theorem Jvh : Try.f70.body = some (Try.f70.body.get!) := by kernel_rfl
theorem JrC : Enters Try.prog 70 := enters_of Jvg (by kernel_rfl) Jvh
-- FN slices.Concat[[]byte,byte]
def Jo (l : List PV) : List PV := (l.map PV.els).flatten
@[simp] theorem JkH : Jo [] = [] := rfl
@[simp] theorem ZC (p : PV) (l : List PV) : Jo (p :: l) = p.els ++ Jo l := by simp [Jo]
theorem G7 (a b : List PV) : Jo (a ++ b) = Jo a ++ Jo b := by simp [Jo]
theorem Jbb (l : List PV) (i : Nat) (h : i < l.length) : l.take (i + 1) = l.take i ++ [l.getD i .top] := by
  rw [List.take_add_one, List.getD_eq_getElem?_getD, List.getElem?_eq_getElem h]; rfl
theorem JgF (l : List PV) (i : Nat) (h : i < l.length) : l.drop i = l.getD i .top :: l.drop (i + 1) := by
  rw [List.drop_eq_getElem_cons h, List.getD_eq_getElem?_getD, List.getElem?_eq_getElem h]; rfl
theorem Gy (l : List PV) (i : Nat) (h : i < l.length) : Jo (l.take (i + 1)) = Jo (l.take i) ++ (l.getD i .top).els := by
  rw [Jbb l i h, G7, ZC, JkH, List.append_nil]
theorem VJ (l : List PV) (i : Nat) : (Jo (l.take i)).length ≤ (Jo l).length := by
  have : Jo l = Jo (l.take i) ++ Jo (l.drop i) := by rw [← G7, List.take_append_drop]
  rw [this, List.length_append]; omega
theorem Jcp {l : List PV} (h : l.all (PV.isRo 5) = true) {i : Nat} (hi : i < l.length) : (l.getD i .top).isRo 5 = true := by
  rw [List.getD_eq_getElem?_getD, List.getElem?_eq_getElem hi]
  exact List.all_eq_true.1 h _ (List.getElem_mem hi)
theorem Je5 {α : Type} (a b : List α) : (a ++ b).isEmpty = (a.isEmpty && b.isEmpty) := by cases a <;> rfl
theorem Jpw (f : Nat) (k0 : Bool → Bool → List PV → Int → Option Res) (a b : Bool) (c : List PV) (nl fl : Bool) (l : List PV) (hl : l.all (PV.isRo 5) = true) (hs : (Jo l).length ≤ 140737488355328) (hn : l.length ≤ 140737488355328) : ∀ (d i n : Nat), i + d = l.length → d < n →
    Z5 f k0 n a b c ((Jo (l.take i)).length : Int) nl fl l (l.length : Int) (i : Int) = k0 a b c ((Jo l).length : Int)
  | 0, i, n + 1, h, hd => by
      obtain rfl : i = l.length := by omega
      simp only [Z5, VH]
      exact (Jx (by simp)).trans (by rw [List.take_length])
  | d + 1, i, n + 1, h, hd => by
      have hle := VJ l (i + 1)
      have hadd : (Jo (l.take (i + 1))).length = (Jo (l.take i)).length + (l.getD i .top).els.length := by rw [Gy l i (by omega), List.length_append]
      have h1 : IntKind.i64.wrap ((i : Int) + 1) = ((i + 1 : Nat) : Int) := by rw [wrap_i64 (by omega) (by omega)]; omega
      have h2 : IntKind.i64.wrap (((Jo (l.take i)).length : Int) + ((l.getD i .top).els.length : Int)) = ((Jo (l.take (i + 1))).length : Int) := by rw [wrap_i64 (by omega) (by omega)]; omega
      simp only [Z5, VH, zi, Int.toNat_natCast, h1, h2]
      refine (Jb (by simp <;> omega)).trans ?_
      refine (Jb (by rw [Jcp hl (by omega)]; simp; omega)).trans ?_
      refine (Jx (by simp <;> omega)).trans ?_
      exact Jpw f k0 a b c nl fl l hl hs hn d (i + 1) n (by omega) (by omega)
theorem JkI (f : Nat) (k0 : Nat → Bool → List PV → Option Res) (nl fl : Bool) (l : List PV) (hl : l.all (PV.isRo 5) = true) (hs : (Jo l).length ≤ 140737488355328) (hn : l.length ≤ 140737488355328) : ∀ (d i n : Nat) (z : Bool) (v : List PV), i + d = l.length → d < n → v.take (Jo (l.take i)).length = Jo (l.take i) → (d = 0 → v = Jo l) →
    Xm f k0 n (Jo (l.take i)).length nl fl l (l.length : Int) (i : Int) z v = k0 (Jo l).length (z && (Jo (l.drop i)).isEmpty) (Jo l)
  | 0, i, n + 1, z, v, h, hd, hv, h0 => by
      obtain rfl : i = l.length := by omega
      simp only [Xm, VI]
      refine (Jx (by simp)).trans ?_
      rw [List.take_length, h0 rfl, List.drop_length]; simp
  | d + 1, i, n + 1, z, v, h, hd, hv, h0 => by
      have hle := VJ l (i + 1)
      have hadd : (Jo (l.take (i + 1))).length = (Jo (l.take i)).length + (l.getD i .top).els.length := by rw [Gy l i (by omega), List.length_append]
      have h1 : IntKind.i64.wrap ((i : Int) + 1) = ((i + 1 : Nat) : Int) := by rw [wrap_i64 (by omega) (by omega)]; omega
      simp only [Xm, VI, zi, Int.toNat_natCast, h1, hv]
      refine (Jb (by simp <;> omega)).trans ?_
      refine (Jb (by rw [Jcp hl (by omega)]; simp; omega)).trans ?_
      refine (Jb (by simp only [Jj, Bool.and_true, decide_eq_true_eq]; omega)).trans ?_
      have := JkI f k0 nl fl l hl hs hn d (i + 1) n (z && (l.getD i .top).els.isEmpty) (Jo (l.take (i + 1))) (by omega) (by omega) (List.take_length) (fun hd0 => by rw [show i + 1 = l.length from by omega, List.take_length])
      rw [hadd, Gy l i (by omega)] at this
      rw [this, JgF l i (by omega), ZC, Je5, Bool.and_assoc]
def JgG : List PV → List Ent → (Res → Option Res) → Option Res
  | [.ro 29 nl fl l], [], k => bif l.all (PV.isRo 5) && (decide ((Jo l).length ≤ 140737488355328) && decide (l.length ≤ 140737488355328)) then k ⟨.ow 5 16 [] 0 (Jo l).length none, [], [.vec false 5 (Jo l).isEmpty (Jo l)]⟩ else none
  | _, _, _ => none
def Jne : Sig := { own := [], run := JgG }
theorem JrD (nl fl : Bool) (l : List PV) (k : Res → Option Res) (hl : l.all (PV.isRo 5) = true) (hs : (Jo l).length ≤ 140737488355328) (hn : l.length ≤ 140737488355328) :
    g70 (l.length + 1) nl fl l k = k ⟨.ow 5 16 [] 0 (Jo l).length none, [], [.vec false 5 (Jo l).isEmpty (Jo l)]⟩ := by
  have h0 := Jpw (l.length + 1) (fun x0_0 x1_0 x2_0 x3_0 =>
    bif decide (x3_0 < 0) then
      none
    else bif decide (IntKind.i64.wrap (x3_0 - IntKind.i64.wrap (zi 0 - zi 0)) > 0) then
      bif decide (0 ≤ IntKind.i64.wrap (x3_0 - IntKind.i64.wrap (zi 0 - zi 0))) && Jj (IntKind.i64.wrap (x3_0 - IntKind.i64.wrap (zi 0 - zi 0))).toNat 1 && true then
        Xm (l.length + 1) (fun x0_1 x1_1 x2_1 =>
          k (Res.mk (PV.ow 5 16 [] 0 x0_1 none) []
            [Ent.vec false 5 x1_1
                x2_1])) (l.length + 1) (0) x0_0 x1_0 x2_0 (zi
          x2_0.length) (0) (IntKind.i64.wrap (x3_0 - IntKind.i64.wrap (zi 0 - zi 0)) ==
          0) (List.replicate (IntKind.i64.wrap (x3_0 - IntKind.i64.wrap (zi 0 - zi 0))).toNat (PV.sc (Value.int IntKind.u8 0)))
      else none
    else Xm (l.length + 1) (fun x0_2 x1_2 x2_2 =>
      k (Res.mk (PV.ow 5 16 [] 0 x0_2 none) [] [Ent.vec false 5 x1_2 x2_2])) (l.length + 1) (0) x0_0 x1_0 x2_0 (zi x2_0.length) (0) true ([])) nl fl l nl fl l hl hs hn l.length 0 (l.length + 1) (by omega) (by omega)
  refine h0.trans ?_
  have hw : IntKind.i64.wrap (((Jo l).length : Int) - IntKind.i64.wrap (zi 0 - zi 0)) = ((Jo l).length : Int) := by
    have : IntKind.i64.wrap (zi 0 - zi 0) = 0 := by decide
    rw [this, wrap_i64 (by omega) (by omega)]; omega
  simp only [hw]
  refine (Jx (by simp <;> omega)).trans ?_
  cases he : (Jo l).isEmpty with
  | true =>
    have he' : Jo l = [] := by simpa using he
    refine (Jx (by simp [he'])).trans ?_
    have := JkI (l.length + 1) (fun x0_2 x1_2 x2_2 => k (Res.mk (PV.ow 5 16 [] 0 x0_2 none) [] [Ent.vec false 5 x1_2 x2_2])) nl fl l hl hs hn l.length 0 (l.length + 1) true [] (by omega) (by omega) (by simp) (fun _ => he'.symm)
    refine this.trans ?_
    simp [he']
  | false =>
    have he' : Jo l ≠ [] := by simpa using he
    have hpos : 0 < (Jo l).length := List.length_pos_iff.2 he'
    have hl0 : l.length ≠ 0 := by
      intro h; rw [List.length_eq_zero_iff] at h; subst h; simp at he'
    refine (Jb (by simp <;> omega)).trans ?_
    refine (Jb (by simp [Jj] <;> omega)).trans ?_
    have := JkI (l.length + 1) (fun x0_2 x1_2 x2_2 => k (Res.mk (PV.ow 5 16 [] 0 x0_2 none) [] [Ent.vec false 5 x1_2 x2_2])) nl fl l hl hs hn l.length 0 (l.length + 1) (((Jo l).length : Int) == 0) (List.replicate (((Jo l).length : Int)).toNat (PV.sc (Value.int IntKind.u8 0))) (by omega) (by omega) (by simp) (fun h => absurd h hl0)
    refine this.trans ?_
    have hz : (((Jo l).length : Int) == 0) = false := by simp [he']
    rw [hz]; rfl
theorem JkJ : Jk tau Try.prog 70 Jne := Jgn Js JgE Jt Jvg Jvh (fun n => Jnb (Ja9 n) (Jba n)) [] 0 [] JgG (fun n => JzA n) fun xs es k res hr => by
  unfold JgG at hr
  split at hr
  · rename_i nl fl l
    obtain ⟨hc, hr⟩ := JL hr
    simp only [Bool.and_eq_true, decide_eq_true_eq] at hc
    refine ⟨rfl, l.length + 1, 0, (e70 _ _ _ _ _).trans ?_⟩
    rw [JrD _ _ _ _ hc.1 hc.2.1 hc.2.2]; exact hr
  · cases hr
def N69 : Nat := 33
noncomputable def F69 : Fns := F0
theorem JgH : JA tau Try.prog F69 := JJ
noncomputable def Jbc : Code := Qy (Try.f69.body.get!) [1, 0, 1, 1, 1, 1, 0, 1, 0, 0]
def Xn : Nm := [(0, .any), (3, .any), (19, .any)]
def YZ : Nm := [(0, .any)]
def Je6 : An := (.seq .leaf (.seq (.cond .leaf .leaf) (.seq (.block none (.seq .leaf .leaf)) .leaf)))
noncomputable def VK : Code := Qy (Try.f69.body.get!) [1, 0]
def XZ : Nm := [(0, .any), (3, .any)]
def Y0 : Nm := [(2, .any)]
def Jcq (r1 : Q6) : An := (.seq .leaf (.seq .leaf (.seq .leaf (.seq (.seq .leaf (.cond (.seq .leaf .leaf) .leaf)) (.seq (.seq .leaf (.block none (.sum Xn N69 r1))) (.seq .leaf .leaf))))))
def JrE (r0 : JtR) (r1 : Q6) : An := (.seq .leaf (.ssum XZ N69 (Jcq r1) r0))
noncomputable def VL (f : Nat) (rc : Nat → Int → Int → Bool → List PV → Option Res) (k0 : Nat → Bool → List PV → Option Res) (v0 : Nat) (v1 : Int) (v2 : Int) (v3 : Bool) (v4 : List PV) : Option Res := bif decide (v2 < 8) then bif decide (0 ≤ IntKind.i64.wrap (56 - IntKind.i64.wrap (8 * v2))) && true then bif Jj (v0 + 1) 1 && true then rc (v0 + 1) v1 (IntKind.i64.wrap (v2 + 1)) (v3 && false) (List.take v0 v4 ++ [.sc (.int .u8 (IntKind.u8.wrap (JB IntKind.u64 v1 (IntKind.i64.wrap (56 - IntKind.i64.wrap (8 * v2))))))]) else none else none else k0 v0 v3 v4
noncomputable def Xo (f : Nat) (k0 : Nat → Bool → List PV → Option Res) : Nat → Nat → Int → Int → Bool → List PV → Option Res
  | 0, _, _, _, _, _ => none
  | n + 1, v0, v1, v2, v3, v4 => VL f (Xo f k0 n) k0 v0 v1 v2 v3 v4
theorem Jnf (f : Nat) (k : Kont) (n : Nat) (v0 : Nat) (v1 : Int) (v2 : Int) (v3 : Bool) (v4 : List PV) : Jq tau 1 Xn (fun s k => ev tau F69 1 0 Jbc (Je6 ) s k) (n + 1) (Je Xn N69 [.ow 5 545 [] 0 v0 none, .sc (.int .u64 v1), .sc (.int .i64 v2)] [(0, .dead), (545, .vec false 5 v3 v4)]) (Jz tau 1 YZ k) = VL f (fun v0 v1 v2 v3 v4 => Jq tau 1 Xn (fun s k => ev tau F69 1 0 Jbc (Je6 ) s k) n (Je Xn N69 [.ow 5 545 [] 0 v0 none, .sc (.int .u64 v1), .sc (.int .i64 v2)] [(0, .dead), (545, .vec false 5 v3 v4)]) (Jz tau 1 YZ k)) (fun x0 x1 x2 => k (Ex.exit 0) (Je YZ N69 [.ow 5 545 [] 0 x0 none] [(0, .dead), (545, .vec false 5 x1 x2)])) v0 v1 v2 v3 v4 := by kernel_rfl
theorem Jh8 (f : Nat) (k : Kont) : ∀ (n : Nat) (v0 : Nat) (v1 : Int) (v2 : Int) (v3 : Bool) (v4 : List PV), Jq tau 1 Xn (fun s k => ev tau F69 1 0 Jbc (Je6 ) s k) n (Je Xn N69 [.ow 5 545 [] 0 v0 none, .sc (.int .u64 v1), .sc (.int .i64 v2)] [(0, .dead), (545, .vec false 5 v3 v4)]) (Jz tau 1 YZ k) = Xo f (fun x0 x1 x2 => k (Ex.exit 0) (Je YZ N69 [.ow 5 545 [] 0 x0 none] [(0, .dead), (545, .vec false 5 x1 x2)])) n v0 v1 v2 v3 v4 | 0, _, _, _, _, _ => rfl | n + 1, v0, v1, v2, v3, v4 => (Jnf f k n v0 v1 v2 v3 v4).trans (congrArg (fun r => VL f r (fun x0 x1 x2 => k (Ex.exit 0) (Je YZ N69 [.ow 5 545 [] 0 x0 none] [(0, .dead), (545, .vec false 5 x1 x2)])) v0 v1 v2 v3 v4) (by funext v0 v1 v2 v3 v4; exact Jh8 f k n v0 v1 v2 v3 v4))
noncomputable def Yt (f : Nat) : List PV → List (Nat × Ent) → Kont → Option Res
  | [.ow 5 545 [] 0 v0 none, .sc (.int .u64 v1),
  PV.sc
    (Value.int IntKind.i64
      v2)], [(0, .dead),
  (545, .vec false 5 v3 v4)], k => Xo f (fun x0 x1 x2 => k (Ex.exit 0) (Je YZ N69 [.ow 5 545 [] 0 x0 none] [(0, .dead), (545, .vec false 5 x1 x2)])) f v0 v1 v2 v3 v4
  | _, _, _ => none
theorem JrF (f : Nat) : Ji Jbc Je6 = [] := by kernel_rfl
theorem Jpx (f : Nat) : (Item.l Jbc Xn N69 (Yt f)).Ok tau Try.prog 1 := JM Js JgH Jt (x := Je6) (nm2 := YZ) (Jr _ _ (by rw [JrF f]; intro q hq; cases hq)) fun vs hp k res hr => by
  unfold Yt at hr
  split at hr
  · exact ⟨f, 0, (Jh8 f _ f _ _ _ _ _ ).trans hr⟩
  · cases hr
noncomputable def VM (f : Nat) (rc : Nat → Int → Bool → List PV → Option Res) (k0 : Nat → Bool → List PV → Option Res) (v0 : Nat) (v1 : Int) (v2 : Bool) (v3 : List PV) : Option Res := bif (zi v0).tmod 64 != 56 then bif Jj (v0 + 1) 1 && true then rc (v0 + 1) v1 (v2 && false) (List.take v0 v3 ++ [.sc (.int .u8 0)]) else none else Xo f (fun x0_0 x1_0 x2_0 => k0 x0_0 x1_0 x2_0) f v0 v1 (0) v2 v3
noncomputable def Z6 (f : Nat) (k0 : Nat → Bool → List PV → Option Res) : Nat → Nat → Int → Bool → List PV → Option Res
  | 0, _, _, _, _ => none
  | n + 1, v0, v1, v2, v3 => VM f (Z6 f k0 n) k0 v0 v1 v2 v3
theorem Jng (f : Nat) (k : Kont) (n : Nat) (v0 : Nat) (v1 : Int) (v2 : Bool) (v3 : List PV) : QJ tau 1 XZ (hasLabel VK) (fun l s k => J8 tau F69 1 0 VK (Jcq (Yt f)) l s k) (n + 1) 0 (Je XZ N69 [.ow 5 545 [] 0 v0 none, .sc (.int .u64 v1)] [(0, .dead), (545, .vec false 5 v2 v3)]) (Jz tau 1 Y0 k) = VM f (fun v0 v1 v2 v3 => QJ tau 1 XZ (hasLabel VK) (fun l s k => J8 tau F69 1 0 VK (Jcq (Yt f)) l s k) n 0 (Je XZ N69 [.ow 5 545 [] 0 v0 none, .sc (.int .u64 v1)] [(0, .dead), (545, .vec false 5 v2 v3)]) (Jz tau 1 Y0 k)) (fun x0 x1 x2 => k Ex.ret (Je Y0 N69 [.ow 5 545 [] 0 x0 none] [(0, .dead), (545, .vec false 5 x1 x2)])) v0 v1 v2 v3 := by kernel_rfl
theorem Jh9 (f : Nat) (k : Kont) : ∀ (n : Nat) (v0 : Nat) (v1 : Int) (v2 : Bool) (v3 : List PV), QJ tau 1 XZ (hasLabel VK) (fun l s k => J8 tau F69 1 0 VK (Jcq (Yt f)) l s k) n 0 (Je XZ N69 [.ow 5 545 [] 0 v0 none, .sc (.int .u64 v1)] [(0, .dead), (545, .vec false 5 v2 v3)]) (Jz tau 1 Y0 k) = Z6 f (fun x0 x1 x2 => k Ex.ret (Je Y0 N69 [.ow 5 545 [] 0 x0 none] [(0, .dead), (545, .vec false 5 x1 x2)])) n v0 v1 v2 v3 | 0, _, _, _, _ => rfl | n + 1, v0, v1, v2, v3 => (Jng f k n v0 v1 v2 v3).trans (congrArg (fun r => VM f r (fun x0 x1 x2 => k Ex.ret (Je Y0 N69 [.ow 5 545 [] 0 x0 none] [(0, .dead), (545, .vec false 5 x1 x2)])) v0 v1 v2 v3) (by funext v0 v1 v2 v3; exact Jh9 f k n v0 v1 v2 v3))
noncomputable def Jcr (f : Nat) : Nat → List PV → List (Nat × Ent) → Kont → Option Res
  | 0, [.ow 5 545 [] 0 v0 none,
  PV.sc
    (Value.int IntKind.u64
      v1)], [(0, .dead),
  (545, .vec false 5 v2 v3)], k => Z6 f (fun x0 x1 x2 => k Ex.ret (Je Y0 N69 [.ow 5 545 [] 0 x0 none] [(0, .dead), (545, .vec false 5 x1 x2)])) f v0 v1 v2 v3
  | _, _, _, _ => none
theorem JrG (f : Nat) : Ji VK (Jcq (Yt f)) = [.l Jbc Xn N69 (Yt f)] := by kernel_rfl
theorem Jvi (f : Nat) : (Item.s VK XZ N69 (Jcr f)).Ok tau Try.prog 1 := Ja3 Js JgH Jt (x := (Jcq (Yt f))) (nm2 := Y0) (Jr _ _ (by rw [JrG f]; simp only [List.forall_mem_cons, List.not_mem_nil, false_implies, implies_true, and_true]; exact Jpx f)) fun l vs hp k res hr => by
  unfold Jcr at hr
  split at hr
  · exact ⟨f, 0, (Jh9 f _ f _ _ _ _ ).trans hr⟩
  · cases hr
noncomputable def g69 (f : Nat) (nl : Bool) (l : List PV) (n : Nat) (k : Res → Option Res) : Option Res := bif Jj (n + 1) 1 && true then bif (zi (n + 1)).tmod 64 != 56 then bif Jj (n + 1 + 1) 1 && true then Z6 f (fun x0_1 x1_1 x2_1 => k (Res.mk (.ow 5 16 [] 0 x0_1 none) [.dead] [.vec false 5 x1_1 x2_1])) f (n + 1 + 1) (IntKind.u64.wrap (IntKind.u64.wrap (zi n) * 8)) (nl && false && false) (List.take (n + 1) (List.take n l ++ [.sc (.int .u8 128)]) ++ [.sc (.int .u8 0)]) else none else Xo f (fun x0_2 x1_2 x2_2 => k (Res.mk (.ow 5 16 [] 0 x0_2 none) [.dead] [.vec false 5 x1_2 x2_2])) f (n + 1) (IntKind.u64.wrap (IntKind.u64.wrap (zi n) * 8)) (0) (nl && false) (List.take n l ++ [.sc (.int .u8 128)]) else none
theorem e69 (f : Nat) (nl : Bool) (l : List PV) (n : Nat) (k : Res → Option Res) : JN tau F69 Try.f69 (Try.f69.body.get!) (JrE (Jcr f) (Yt f)) [] 0 [.ow 5 0 [] 0 n none] [.vec false 5 nl l] k = g69 f nl l n k := by kernel_rfl
theorem JzB (f : Nat) : Ji (Try.f69.body.get!) (JrE (Jcr f) (Yt f)) = [.s VK XZ N69 (Jcr f), .l Jbc Xn N69 (Yt f)] := by kernel_rfl
theorem JzC (f : Nat) : ∀ q ∈ Ji (Try.f69.body.get!) (JrE (Jcr f) (Yt f)), q.Ok tau Try.prog 1 := by
  rw [JzB f]; simp only [List.forall_mem_cons, List.not_mem_nil, false_implies, implies_true, and_true]; exact ⟨Jvi f, Jpx f⟩
theorem Jvj : Try.prog.funcs[69]? = some Try.f69 := by kernel_rfl
theorem Jvk : Try.f69.body = some (Try.f69.body.get!) := by kernel_rfl
theorem JzD : Enters Try.prog 69 := enters_of Jvj (by kernel_rfl) Jvk
-- FN sha.padded
def JrH (n : Int) (i : Nat) : Int := IntKind.u8.wrap (JB .u64 n (56 - 8 * (i : Int)))
theorem Jpy (f : Nat) (N : Int) (k0 : Nat → Bool → List PV → Option Res) (L : List Int) (hL : L.length ≤ 140737488355300) : ∀ (d i n : Nat) (z : Bool), i + d = 8 → d < n → (d = 0 → z = false) →
    Xo f k0 n (L.length + i) N (i : Int) z (pu .u8 (L ++ (List.range i).map (JrH N))) = k0 (L.length + 8) false (pu .u8 (L ++ (List.range 8).map (JrH N)))
  | 0, i, n + 1, z, h, hn, hz => by
      obtain rfl : i = 8 := by omega
      simp only [Xo, VL]
      rw [hz rfl]
      exact Jx (by decide)
  | d + 1, i, n + 1, z, h, hn, hz => by
      have h1 : IntKind.i64.wrap ((i : Int) + 1) = ((i + 1 : Nat) : Int) := by rw [wrap_i64 (by omega) (by omega)]; omega
      have h8 : IntKind.i64.wrap (8 * (i : Int)) = 8 * (i : Int) := wrap_i64 (by omega) (by omega)
      have h9 : IntKind.i64.wrap (56 - 8 * (i : Int)) = 56 - 8 * (i : Int) := wrap_i64 (by omega) (by omega)
      have c1 : decide ((i : Int) < 8) = true := by simp; omega
      have c2 : decide (0 ≤ 56 - 8 * (i : Int)) = true := by simp; omega
      have c3 : Jj (L.length + i + 1) 1 = true := by simp [Jj]; omega
      have hlen : (L ++ (List.range i).map (JrH N)).length = L.length + i := by simp
      simp only [Xo, VL, h1, h8, h9, c1, c2, c3, Bool.and_true, cond_true, W1, Bool.and_false]
      rw [List.take_of_length_le (by omega)]
      have := Jpy f N k0 L hL d (i + 1) n false (by omega) (by omega) (fun _ => rfl)
      rw [List.range_succ, List.map_append, ← List.append_assoc, JR] at this
      exact this
theorem Jpz (f : Nat) (N : Int) (k0 : Nat → Bool → List PV → Option Res) (hf : 9 ≤ f) : ∀ (d n : Nat) (L : List Int) (z : Bool), zs L.length = d → d < n → L.length + d ≤ 140737488355200 →
    Z6 f k0 n L.length N z (pu .u8 L) = Xo f k0 f (L.length + d) N 0 (z && decide (d = 0)) (pu .u8 (L ++ List.replicate d 0))
  | 0, n + 1, L, z, hd, hn, hL => by
      simp only [Z6, VM, Ja8]
      refine (Jx (by simp [zs] at hd ⊢; omega)).trans ?_
      simp
  | d + 1, n + 1, L, z, hd, hn, hL => by
      have hlt : d + 1 < 64 := by rw [← hd]; unfold zs; omega
      have c3 : Jj (L.length + 1) 1 = true := by simp [Jj]; omega
      simp only [Z6, VM, Ja8, c3, Bool.and_true, cond_true, W1, Bool.and_false]
      refine (Jb (by simp [zs] at hd ⊢; omega)).trans ?_
      rw [List.take_of_length_le (Nat.le_refl _)]
      have := Jpz f N k0 hf d n (L ++ [0]) false (by simp [zs] at hd ⊢; omega) (by omega) (by simp; omega)
      simp only [List.length_append, List.length_cons, List.length_nil, Nat.zero_add, JR] at this
      refine this.trans ?_
      rw [show L.length + 1 + d = L.length + (d + 1) from by omega, List.replicate_succ]
      simp
theorem JrI (nl : Bool) (bs : List Int) (hb : bs.length ≤ 140737488355000) (k : Res → Option Res) : g69 100 nl (pu .u8 bs) bs.length k = k ⟨.ow 5 16 [] 0 (Qt bs).length none, [.dead], [.vec false 5 false (pu .u8 (Qt bs))]⟩ := by
  have c1 : (Jj (bs.length + 1) 1 && true) = true := by simp [Jj]; omega
  have c2 : (Jj (bs.length + 1 + 1) 1 && true) = true := by simp [Jj]; omega
  have hlen : (Qt bs).length = bs.length + 1 + zs (bs.length + 1) + 8 := by simp [Qt, Jm2]; omega
  have hz : zs (bs.length + 1) < 64 := by unfold zs; omega
  refine (Jb c1).trans ?_
  rw [Ja8, W1, List.take_of_length_le (Nat.le_refl _)]
  have fin : ∀ z, Xo 100 (fun x0_2 x1_2 x2_2 => k (Res.mk (PV.ow 5 16 [] 0 x0_2 none) [Ent.dead] [Ent.vec false 5 x1_2 x2_2])) 100 (bs.length + 1 + zs (bs.length + 1)) (IntKind.u64.wrap (IntKind.u64.wrap (zi bs.length) * 8)) 0 z (pu .u8 (bs ++ [128] ++ List.replicate (zs (bs.length + 1)) 0)) = k ⟨.ow 5 16 [] 0 (Qt bs).length none, [.dead], [.vec false 5 false (pu .u8 (Qt bs))]⟩ := by
    intro z
    have := Jpy 100 (IntKind.u64.wrap (IntKind.u64.wrap (zi bs.length) * 8)) (fun x0_2 x1_2 x2_2 => k (Res.mk (PV.ow 5 16 [] 0 x0_2 none) [Ent.dead] [Ent.vec false 5 x1_2 x2_2])) (bs ++ [128] ++ List.replicate (zs (bs.length + 1)) 0) (by simp; omega) 8 0 100 z (by omega) (by omega) (by omega)
    have hl2 : (bs ++ [128] ++ List.replicate (zs (bs.length + 1)) 0).length = bs.length + 1 + zs (bs.length + 1) := by simp; omega
    rw [hl2] at this
    simp only [List.range_zero, List.map_nil, List.append_nil, Nat.add_zero] at this
    rw [hlen]
    exact this
  cases hc : (((((bs.length + 1) % 64 : Nat) : Int)) != 56) with
  | true =>
    refine (Jb rfl).trans ((Jb c2).trans ?_)
    have hc' : ((bs.length + 1) % 64 : Nat) ≠ 56 := by simp at hc; omega
    have hz1 : zs (bs.length + 1 + 1) + 1 = zs (bs.length + 1) := by unfold zs; omega
    have := Jpz 100 (IntKind.u64.wrap (IntKind.u64.wrap (zi bs.length) * 8)) (fun x0_1 x1_1 x2_1 => k (Res.mk (PV.ow 5 16 [] 0 x0_1 none) [Ent.dead] [Ent.vec false 5 x1_1 x2_1])) (by omega) (zs (bs.length + 1 + 1)) 100 (bs ++ [128] ++ [0]) (nl && false && false) (by simp) (by unfold zs; omega) (by simp; omega)
    have h0 : pu .u8 (bs ++ [128] ++ [0]) = List.take (bs.length + 1) (pu .u8 bs ++ [PV.sc (Value.int IntKind.u8 128)]) ++ [PV.sc (Value.int IntKind.u8 0)] := by
      rw [List.take_of_length_le (by simp)]; simp
    rw [h0] at this
    simp only [List.length_append, List.length_cons, List.length_nil, Nat.zero_add] at this
    refine this.trans ?_
    have h3 : bs ++ [128] ++ [0] ++ List.replicate (zs (bs.length + 1 + 1)) 0 = bs ++ [128] ++ List.replicate (zs (bs.length + 1)) 0 := by
      rw [← hz1, List.replicate_succ]; simp
    rw [h3, show bs.length + 1 + 1 + zs (bs.length + 1 + 1) = bs.length + 1 + zs (bs.length + 1) from by omega]
    exact fin _
  | false =>
    refine (Jx rfl).trans ?_
    have hc' : ((bs.length + 1) % 64 : Nat) = 56 := by simp at hc; omega
    have hz0 : zs (bs.length + 1) = 0 := by unfold zs; omega
    have := fin (nl && false)
    rw [hz0] at this
    simpa using this
def JgI : List PV → List Ent → (Res → Option Res) → Option Res
  | [.ow 5 0 [] 0 n none], [.vec false 5 nl l], k => bif Jd .u8 l && (decide (n = l.length) && decide (l.length ≤ 140737488355000)) then k ⟨.ow 5 16 [] 0 (Qt (Jh l)).length none, [.dead], [.vec false 5 false (pu .u8 (Qt (Jh l)))]⟩ else none
  | _, _, _ => none
def Jvl : Sig := { own := [true], run := JgI }
theorem Jvm : Jk tau Try.prog 69 Jvl := JV Js JgH Jt Jvj Jvk _ [] 1 [true] JgI (JzC 100) fun xs es k res hr => by
  unfold JgI at hr
  split at hr
  · obtain ⟨hc, hr⟩ := JL hr
    simp only [Bool.and_eq_true, decide_eq_true_eq] at hc
    refine ⟨rfl, 0, (e69 100 _ _ _ _).trans ?_⟩
    rw [hc.2.1, Qb hc.1, JG, JrI _ _ (by simpa using hc.2.2)]
    exact hr
  · cases hr
noncomputable def F68 : Fns := F0
theorem JrJ : JA tau Try.prog F68 := JJ
def Jnh : An := (.seq .leaf (.seq .leaf .leaf))
noncomputable def g68 (f : Nat) (k : Res → Option Res) : Option Res := k (Res.mk (.ar 113 [.sc (.int .u32 1779033703), .sc (.int .u32 3144134277), .sc (.int .u32 1013904242), .sc (.int .u32 2773480762), .sc (.int .u32 1359893119), .sc (.int .u32 2600822924), .sc (.int .u32 528734635), .sc (.int .u32 1541459225)]) [] [])
theorem e68 (f : Nat) (k : Res → Option Res) : JN tau F68 Try.f68 (Try.f68.body.get!) Jnh [.ro] 0 [] [] k = g68 f k := by kernel_rfl
theorem JzE (f : Nat) : Ji (Try.f68.body.get!) Jnh = [] := by kernel_rfl
theorem JzF (f : Nat) : ∀ q ∈ Ji (Try.f68.body.get!) Jnh, q.Ok tau Try.prog 0 := by
  rw [JzE f]; intro q hq; cases hq
theorem Jvn : Try.prog.funcs[68]? = some Try.f68 := by kernel_rfl
theorem Jvo : Try.f68.body = some (Try.f68.body.get!) := by kernel_rfl
theorem JzG : Enters Try.prog 68 := enters_of Jvn (by kernel_rfl) Jvo
noncomputable def JkK : List PV → List Ent → (Res → Option Res) → Option Res
  | [], [], k => g68 0  k
  | _, _, _ => none
noncomputable def s68 : Sig := { own := [], run := JkK }
theorem JzH : Jk tau Try.prog 68 s68 := JV Js JrJ Jt Jvn Jvo Jnh [.ro] 0 [] JkK (JzF 0) fun xs es k res hr => by
  unfold JkK at hr
  split at hr
  · exact ⟨rfl, 0, (e68 0  _).trans hr⟩
  · cases hr
def N27 : Nat := 37
noncomputable def F27 : Fns := JH 68 s68 (JH 69 Jvl (JH 70 Jne (JH 71 Ju5 F0)))
theorem JgJ : JA tau Try.prog F27 := (((JJ.add Ju6 Jzx).add JkJ JrC).add Jvm JzD).add JzH JzG
noncomputable def Jcs : Code := Qy (Try.f27.body.get!) [1, 1, 0, 1, 0, 0]
def X0 : Nm := [(2, .any), (3, .any), (4, .ro)]
def Y1 : Nm := [(2, .any), (3, .any)]
def Je7 : An := (.seq (.seq .leaf (.cond .leaf .leaf)) (.seq (.block none .leaf) .leaf))
noncomputable def Jct : Code := Qy (Try.f27.body.get!) [1, 1, 1, 1, 0, 1, 0, 0]
def X1 : Nm := [(2, .any), (3, .any), (5, .any), (20, .any)]
def Y2 : Nm := [(2, .any), (5, .any)]
def Je8 : An := (.seq .leaf (.seq (.cond .leaf .leaf) (.seq (.block none (.seq .leaf .leaf)) .leaf)))
def Jni (r0 : Q6) (r1 : Q6) : An := (.seq .leaf (.seq .leaf (.seq (.seq .leaf (.block none (.sum X0 N27 r0))) (.seq .leaf (.seq (.seq .leaf (.block none (.sum X1 N27 r1))) (.seq .leaf .leaf))))))
def VN (f : Nat) (rc : List PV → List PV → List PV → Option Res) (k0 : List PV → List PV → Option Res) (v0 : List PV) (v1 : List PV) (v2 : List PV) : Option Res := bif decide (zi v0.length > 0) then bif decide (64 ≤ v0.length) && true then bif Jd IntKind.u32 v2 && decide (v2.length = 8) && (Jd IntKind.u8 (List.take 64 v0) && decide ((List.take 64 v0).length = 64)) then bif decide (64 ≤ v0.length) && decide (v0.length ≤ v0.length) && true then rc (List.drop 64 (List.take v0.length v0)) v1 (pu IntKind.u32 (JeZ (Jh v2) (Jh (List.take 64 v0)))) else none else none else none else k0 v1 v2
def Y3 (f : Nat) (k0 : List PV → List PV → Option Res) : Nat → List PV → List PV → List PV → Option Res
  | 0, _, _, _ => none
  | n + 1, v0, v1, v2 => VN f (Y3 f k0 n) k0 v0 v1 v2
theorem Jnj (f : Nat) (k : Kont) (n : Nat) (v0 : List PV) (v1 : List PV) (v2 : List PV) : Jq tau 0 X0 (fun s k => ev tau F27 0 0 Jcs (Je7 ) s k) (n + 1) (Je X0 N27 [.ptr 608 [], .ptr 609 [], .ro 5 false false v0] [(608, .box false 37 (PV.ar 37 v1)), (609, .box false 113 (PV.ar 113 v2))]) (Jz tau 0 Y1 k) = VN f (fun v0 v1 v2 => Jq tau 0 X0 (fun s k => ev tau F27 0 0 Jcs (Je7 ) s k) n (Je X0 N27 [.ptr 608 [], .ptr 609 [], .ro 5 false false v0] [(608, .box false 37 (PV.ar 37 v1)), (609, .box false 113 (PV.ar 113 v2))]) (Jz tau 0 Y1 k)) (fun x0 x1 => k (Ex.exit 0) (Je Y1 N27 [.ptr 608 [], .ptr 609 []] [(608, .box false 37 (PV.ar 37 x0)), (609, .box false 113 (PV.ar 113 x1))])) v0 v1 v2 := by kernel_rfl
theorem Jia (f : Nat) (k : Kont) : ∀ (n : Nat) (v0 : List PV) (v1 : List PV) (v2 : List PV), Jq tau 0 X0 (fun s k => ev tau F27 0 0 Jcs (Je7 ) s k) n (Je X0 N27 [.ptr 608 [], .ptr 609 [], .ro 5 false false v0] [(608, .box false 37 (PV.ar 37 v1)), (609, .box false 113 (PV.ar 113 v2))]) (Jz tau 0 Y1 k) = Y3 f (fun x0 x1 => k (Ex.exit 0) (Je Y1 N27 [.ptr 608 [], .ptr 609 []] [(608, .box false 37 (PV.ar 37 x0)), (609, .box false 113 (PV.ar 113 x1))])) n v0 v1 v2 | 0, _, _, _ => rfl | n + 1, v0, v1, v2 => (Jnj f k n v0 v1 v2).trans (congrArg (fun r => VN f r (fun x0 x1 => k (Ex.exit 0) (Je Y1 N27 [.ptr 608 [], .ptr 609 []] [(608, .box false 37 (PV.ar 37 x0)), (609, .box false 113 (PV.ar 113 x1))])) v0 v1 v2) (by funext v0 v1 v2; exact Jia f k n v0 v1 v2))
def Jbd (f : Nat) : List PV → List (Nat × Ent) → Kont → Option Res
  | [.ptr 608 [], .ptr 609 [],
  PV.ro 5 false false
    v0], [(608, .box false 37 (PV.ar 37 v1)),
  (609,
    Ent.box false 113
      (PV.ar 113
        v2))], k => Y3 f (fun x0 x1 => k (Ex.exit 0) (Je Y1 N27 [.ptr 608 [], .ptr 609 []] [(608, .box false 37 (PV.ar 37 x0)), (609, .box false 113 (PV.ar 113 x1))])) f v0 v1 v2
  | _, _, _ => none
theorem JrK (f : Nat) : Ji Jcs Je7 = [] := by kernel_rfl
theorem Jvp (f : Nat) : (Item.l Jcs X0 N27 (Jbd f)).Ok tau Try.prog 0 := JM Js JgJ Jt (x := Je7) (nm2 := Y1) (Jr _ _ (by rw [JrK f]; intro q hq; cases hq)) fun vs hp k res hr => by
  unfold Jbd at hr
  split at hr
  · exact ⟨f, 0, (Jia f _ f _ _ _ ).trans hr⟩
  · cases hr
def VO (f : Nat) (rc : Int → List PV → List PV → List PV → Option Res) (k0 : List PV → List PV → Option Res) (v0 : Int) (v1 : List PV) (v2 : List PV) (v3 : List PV) : Option Res := bif decide (v0 < 32) then bif decide (0 ≤ IntKind.i64.wrap (v0.tdiv 4)) && decide (IntKind.i64.wrap (v0.tdiv 4) < zi 8) && true then bif PV.isInt IntKind.u32 (Jn (PV.ar 113 v2) [(IntKind.i64.wrap (v0.tdiv 4)).toNat]) && true then bif decide (0 ≤ IntKind.i64.wrap (24 - IntKind.i64.wrap (8 * v0.tmod 4))) && true then bif decide (0 ≤ v0) && decide (v0 < zi 32) && true then rc (IntKind.i64.wrap (v0 + 1)) v1 v2 (v3.set v0.toNat (.sc (.int .u8 (IntKind.u8.wrap (JB IntKind.u32 (Jn (PV.ar 113 v2) [(IntKind.i64.wrap (v0.tdiv 4)).toNat]).int (IntKind.i64.wrap (24 - IntKind.i64.wrap (8 * v0.tmod 4)))))))) else none else none else none else none else k0 v1 v3
def Y4 (f : Nat) (k0 : List PV → List PV → Option Res) : Nat → Int → List PV → List PV → List PV → Option Res
  | 0, _, _, _, _ => none
  | n + 1, v0, v1, v2, v3 => VO f (Y4 f k0 n) k0 v0 v1 v2 v3
theorem Jnk (f : Nat) (k : Kont) (n : Nat) (v0 : Int) (v1 : List PV) (v2 : List PV) (v3 : List PV) : Jq tau 0 X1 (fun s k => ev tau F27 0 0 Jct (Je8 ) s k) (n + 1) (Je X1 N27 [.ptr 608 [], .ptr 609 [], .ptr 610 [], .sc (.int .i64 v0)] [(608, .box false 37 (PV.ar 37 v1)), (609, .box false 113 (PV.ar 113 v2)), (610, .box false 37 (PV.ar 37 v3))]) (Jz tau 0 Y2 k) = VO f (fun v0 v1 v2 v3 => Jq tau 0 X1 (fun s k => ev tau F27 0 0 Jct (Je8 ) s k) n (Je X1 N27 [.ptr 608 [], .ptr 609 [], .ptr 610 [], .sc (.int .i64 v0)] [(608, .box false 37 (PV.ar 37 v1)), (609, .box false 113 (PV.ar 113 v2)), (610, .box false 37 (PV.ar 37 v3))]) (Jz tau 0 Y2 k)) (fun x0 x1 => k (Ex.exit 2) (Je Y2 N27 [.ptr 608 [], .ptr 609 []] [(608, .box false 37 (PV.ar 37 x0)), (609, .box false 37 (PV.ar 37 x1))])) v0 v1 v2 v3 := by kernel_rfl
theorem Jib (f : Nat) (k : Kont) : ∀ (n : Nat) (v0 : Int) (v1 : List PV) (v2 : List PV) (v3 : List PV), Jq tau 0 X1 (fun s k => ev tau F27 0 0 Jct (Je8 ) s k) n (Je X1 N27 [.ptr 608 [], .ptr 609 [], .ptr 610 [], .sc (.int .i64 v0)] [(608, .box false 37 (PV.ar 37 v1)), (609, .box false 113 (PV.ar 113 v2)), (610, .box false 37 (PV.ar 37 v3))]) (Jz tau 0 Y2 k) = Y4 f (fun x0 x1 => k (Ex.exit 2) (Je Y2 N27 [.ptr 608 [], .ptr 609 []] [(608, .box false 37 (PV.ar 37 x0)), (609, .box false 37 (PV.ar 37 x1))])) n v0 v1 v2 v3 | 0, _, _, _, _ => rfl | n + 1, v0, v1, v2, v3 => (Jnk f k n v0 v1 v2 v3).trans (congrArg (fun r => VO f r (fun x0 x1 => k (Ex.exit 2) (Je Y2 N27 [.ptr 608 [], .ptr 609 []] [(608, .box false 37 (PV.ar 37 x0)), (609, .box false 37 (PV.ar 37 x1))])) v0 v1 v2 v3) (by funext v0 v1 v2 v3; exact Jib f k n v0 v1 v2 v3))
def Jbe (f : Nat) : List PV → List (Nat × Ent) → Kont → Option Res
  | [.ptr 608 [], .ptr 609 [], .ptr 610 [],
  PV.sc
    (Value.int IntKind.i64
      v0)], [(608, .box false 37 (PV.ar 37 v1)), (609, .box false 113 (PV.ar 113 v2)),
  (610,
    Ent.box false 37
      (PV.ar 37
        v3))], k => Y4 f (fun x0 x1 => k (Ex.exit 2) (Je Y2 N27 [.ptr 608 [], .ptr 609 []] [(608, .box false 37 (PV.ar 37 x0)), (609, .box false 37 (PV.ar 37 x1))])) f v0 v1 v2 v3
  | _, _, _ => none
theorem JrL (f : Nat) : Ji Jct Je8 = [] := by kernel_rfl
theorem Jvq (f : Nat) : (Item.l Jct X1 N27 (Jbe f)).Ok tau Try.prog 0 := JM Js JgJ Jt (x := Je8) (nm2 := Y2) (Jr _ _ (by rw [JrL f]; intro q hq; cases hq)) fun vs hp k res hr => by
  unfold Jbe at hr
  split at hr
  · exact ⟨f, 0, (Jib f _ f _ _ _ _ ).trans hr⟩
  · cases hr
def g27 (f : Nat) (nl : Bool) (fl : Bool) (l : List PV) (k : Res → Option Res) : Option Res := bif l.all (PV.isRo 5) && (decide ((Jo l).length ≤ 140737488355328) && decide (l.length ≤ 140737488355328)) then bif Jd IntKind.u8 (Jo l) && (decide ((Jo l).length = (Jo l).length) && decide ((Jo l).length ≤ 140737488355000)) then Y3 f (fun x0_0 x1_0 => Y4 f (fun x0_1 x1_1 => k (Res.mk (.ar 37 x1_1) [] [])) f (0) x0_0 x1_0 ([.sc (.int .u8 0), .sc (.int .u8 0), .sc (.int .u8 0), .sc (.int .u8 0), .sc (.int .u8 0), .sc (.int .u8 0), .sc (.int .u8 0), .sc (.int .u8 0), .sc (.int .u8 0), .sc (.int .u8 0), .sc (.int .u8 0), .sc (.int .u8 0), .sc (.int .u8 0), .sc (.int .u8 0), .sc (.int .u8 0), .sc (.int .u8 0), .sc (.int .u8 0), .sc (.int .u8 0), .sc (.int .u8 0), .sc (.int .u8 0), .sc (.int .u8 0), .sc (.int .u8 0), .sc (.int .u8 0), .sc (.int .u8 0), .sc (.int .u8 0), .sc (.int .u8 0), .sc (.int .u8 0), .sc (.int .u8 0), .sc (.int .u8 0), .sc (.int .u8 0), .sc (.int .u8 0), .sc (.int .u8 0)])) f (List.take (Qt (Jh (Jo l))).length (pu IntKind.u8 (Qt (Jh (Jo l))))) ([.sc (.int .u8 0), .sc (.int .u8 0), .sc (.int .u8 0), .sc (.int .u8 0), .sc (.int .u8 0), .sc (.int .u8 0), .sc (.int .u8 0), .sc (.int .u8 0), .sc (.int .u8 0), .sc (.int .u8 0), .sc (.int .u8 0), .sc (.int .u8 0), .sc (.int .u8 0), .sc (.int .u8 0), .sc (.int .u8 0), .sc (.int .u8 0), .sc (.int .u8 0), .sc (.int .u8 0), .sc (.int .u8 0), .sc (.int .u8 0), .sc (.int .u8 0), .sc (.int .u8 0), .sc (.int .u8 0), .sc (.int .u8 0), .sc (.int .u8 0), .sc (.int .u8 0), .sc (.int .u8 0), .sc (.int .u8 0), .sc (.int .u8 0), .sc (.int .u8 0), .sc (.int .u8 0), .sc (.int .u8 0)]) ([.sc (.int .u32 1779033703), .sc (.int .u32 3144134277), .sc (.int .u32 1013904242), .sc (.int .u32 2773480762), .sc (.int .u32 1359893119), .sc (.int .u32 2600822924), .sc (.int .u32 528734635), .sc (.int .u32 1541459225)]) else none else none
theorem e27 (f : Nat) (nl : Bool) (fl : Bool) (l : List PV) (k : Res → Option Res) : JN tau F27 Try.f27 (Try.f27.body.get!) (Jni (Jbd f) (Jbe f)) [] 0 [.ro 29 nl fl l] [] k = g27 f nl fl l k := by kernel_rfl
theorem JzI (f : Nat) : Ji (Try.f27.body.get!) (Jni (Jbd f) (Jbe f)) = [.l Jcs X0 N27 (Jbd f), .l Jct X1 N27 (Jbe f)] := by kernel_rfl
theorem JzJ (f : Nat) : ∀ q ∈ Ji (Try.f27.body.get!) (Jni (Jbd f) (Jbe f)), q.Ok tau Try.prog 0 := by
  rw [JzI f]; simp only [List.forall_mem_cons, List.not_mem_nil, false_implies, implies_true, and_true]; exact ⟨Jvp f, Jvq f⟩
theorem Jvr : Try.prog.funcs[27]? = some Try.f27 := by kernel_rfl
theorem Jvs : Try.f27.body = some (Try.f27.body.get!) := by kernel_rfl
theorem Jvt : Enters Try.prog 27 := enters_of Jvr (by kernel_rfl) Jvs
-- FN sha.Sum
theorem Jcu : iv.length = 8 := rfl
theorem JpA (P : List Int) (m : Nat) (hP : P.length = 64 * m) (f : Nat) (k0 : List PV → List PV → Option Res) (a : List PV) : ∀ (d i n : Nat), i + d = m → d < n →
    Y3 f k0 n (pu .u8 (P.drop (64 * i))) a (pu .u32 (Q4 iv P i)) = k0 a (pu .u32 (Q4 iv P m))
  | 0, i, n + 1, h, hn => by
      obtain rfl : i = m := by omega
      have hl : (P.drop (64 * i)).length = 0 := by rw [List.length_drop]; omega
      simp only [Y3, VN, JG, hl]
      exact Jx (by decide)
  | d + 1, i, n + 1, h, hn => by
      have hl : 64 ≤ (P.drop (64 * i)).length := by rw [List.length_drop]; omega
      have hf := Ww iv P Jcu i
      simp only [Y3, VN, JG, W1, JF, hf, Qf]
      refine (Jb (by simp; omega)).trans ?_
      refine (Jb (by simp at hl ⊢; omega)).trans ?_
      refine (Jb (by simp at hl ⊢; omega)).trans ?_
      refine (Jb (by simp at hl ⊢; omega)).trans ?_
      rw [List.take_of_length_le (Nat.le_refl _), JhI, List.drop_drop]
      have := JpA P m hP f k0 a d (i + 1) n (by omega) (by omega)
      rw [show 64 * i + 64 = 64 * (i + 1) from by omega]
      exact this
theorem JpB (s : List Int) (hs : s.length = 8) (f : Nat) (k0 : List PV → List PV → Option Res) (a : List PV) (t : List Int) (ht : t.length = 32) : ∀ (d i n : Nat), i + d = 32 → d < n →
    Y4 f k0 n (i : Int) a (pu .u32 s) (pu .u8 (Qs (Yu s) t i)) = k0 a (pu .u8 (Jjy s))
  | 0, i, n + 1, h, hn => by
      obtain rfl : i = 32 := by omega
      simp only [Y4, VO]
      refine (Jx (by decide)).trans ?_
      have := QP (Yu s) t
      rw [ht] at this; rw [this]; rfl
  | d + 1, i, n + 1, h, hn => by
      have e1 : ((i : Int)).tdiv 4 = ((i / 4 : Nat) : Int) := by rw [Int.tdiv_eq_ediv_of_nonneg (by omega)]; omega
      have e2 : ((i : Int)).tmod 4 = ((i % 4 : Nat) : Int) := by rw [Int.tmod_eq_emod_of_nonneg (by omega)]; omega
      have h1 : IntKind.i64.wrap ((i : Int) + 1) = ((i + 1 : Nat) : Int) := by rw [wrap_i64 (by omega) (by omega)]; omega
      have h2 : IntKind.i64.wrap ((i / 4 : Nat) : Int) = ((i / 4 : Nat) : Int) := wrap_i64 (by omega) (by omega)
      have h3 : IntKind.i64.wrap (8 * ((i % 4 : Nat) : Int)) = 8 * ((i % 4 : Nat) : Int) := wrap_i64 (by omega) (by omega)
      have h4 : IntKind.i64.wrap (24 - 8 * ((i % 4 : Nat) : Int)) = 24 - 8 * ((i % 4 : Nat) : Int) := wrap_i64 (by omega) (by omega)
      have g1 : ((i : Int)).toNat = i := by omega
      have g2 : (((i / 4 : Nat) : Int)).toNat = i / 4 := by omega
      have c0 : decide ((i : Int) < 32) = true := by simp; omega
      have c1 : (decide (0 ≤ ((i / 4 : Nat) : Int)) && decide (((i / 4 : Nat) : Int) < zi 8) && true) = true := by simp; omega
      have c2 : (decide (0 ≤ 24 - 8 * ((i % 4 : Nat) : Int)) && true) = true := by simp; omega
      have c3 : (decide (0 ≤ (i : Int)) && decide ((i : Int) < zi 32) && true) = true := by simp; omega
      simp only [Y4, VO, e1, e2, h1, h2, h3, h4, g1, g2, Ws, c0, c1, c2, c3, YW hs (i / 4) (by omega), PV.isInt, PV.int, decide_true, Bool.and_true, cond_true, Wn]
      have := JpB s hs f k0 a t ht d (i + 1) n (by omega) (by omega)
      rw [← Qo (Yu s) t i (by omega)] at this
      exact this
theorem JrM (nl fl : Bool) (l : List PV) (k : Res → Option Res) (hl : l.all (PV.isRo 5) = true) (hn : l.length ≤ 140737488355328) (hi : Jd .u8 (Jo l) = true) (hs : (Jo l).length ≤ 140737488355000) :
    g27 ((Qt (Jh (Jo l))).length / 64 + 100) nl fl l k = k ⟨.ar 37 (pu .u8 (Ju (Jh (Jo l)))), [], []⟩ := by
  refine (Jb (by simp only [hl, Bool.true_and, Bool.and_eq_true, decide_eq_true_eq]; omega)).trans ?_
  refine (Jb (by simp only [hi, Bool.true_and, Bool.and_eq_true, decide_eq_true_eq, true_and]; exact hs)).trans ?_
  rw [W1, List.take_of_length_le (Nat.le_refl _)]
  generalize hP : Qt (Jh (Jo l)) = P
  have hlen : P.length = 64 * (P.length / 64) := by rw [← hP]; exact G4 _
  have h0 : ∀ k0 a, Y3 (P.length / 64 + 100) k0 (P.length / 64 + 100) (pu .u8 P) a (pu .u32 iv) = k0 a (pu .u32 (Q4 iv P (P.length / 64))) := fun k0 a => JpA P (P.length / 64) hlen _ k0 a (P.length / 64) 0 _ (by omega) (by omega)
  have h1 : ∀ k0 a s, s.length = 8 → Y4 (P.length / 64 + 100) k0 (P.length / 64 + 100) 0 a (pu .u32 s) (pu .u8 (List.replicate 32 0)) = k0 a (pu .u8 (Jjy s)) := by
    intro k0 a s hs
    have := JpB s hs (P.length / 64 + 100) k0 a (List.replicate 32 0) (by simp) 32 0 (P.length / 64 + 100) (by omega) (by omega)
    rw [Qz] at this
    exact this
  refine (h0 _ _).trans ((h1 _ _ _ (Ww iv P Jcu _)).trans ?_)
  rw [Jas, JhY, hP]
def JgK : List PV → List Ent → (Res → Option Res) → Option Res
  | [.ro 29 nl fl l], [], k => bif (l.all (PV.isRo 5) && decide (l.length ≤ 140737488355328)) && (Jd .u8 (Jo l) && decide ((Jo l).length ≤ 140737488355000)) then k ⟨.ar 37 (pu .u8 (Ju (Jh (Jo l)))), [], []⟩ else none
  | _, _, _ => none
def JrN : Sig := { own := [], run := JgK }
theorem JpC : Jk tau Try.prog 27 JrN := Jgn Js JgJ Jt Jvr Jvs (fun n => Jni (Jbd n) (Jbe n)) [] 0 [] JgK (fun n => JzJ n) fun xs es k res hr => by
  unfold JgK at hr
  split at hr
  · rename_i nl fl l
    obtain ⟨hc, hr⟩ := JL hr
    simp only [Bool.and_eq_true, decide_eq_true_eq] at hc
    refine ⟨rfl, (Qt (Jh (Jo l))).length / 64 + 100, 0, (e27 _ _ _ _ _).trans ?_⟩
    rw [JrM nl fl l k hc.1.1 hc.1.2 hc.2.1 hc.2.2]; exact hr
  · cases hr
noncomputable def Jvu : Fns := F0
theorem Jnl : JA tau Try.prog Jvu := JJ
def Jic : An := (.seq .leaf (.seq (.seq .leaf (.cond (.seq .leaf .leaf) .leaf)) (.seq .leaf .leaf)))
noncomputable def Jvv (f : Nat) (s_z : Bool) (s_f : Bool) (s : List PV) (k : Res → Option Res) : Option Res := bif s_z then k (Res.mk (.ro 29 true true []) [] []) else bif Jj (0 + s.length) 24 && true then k (Res.mk (.ow 29 16 [] 0 (0 + s.length) none) [] [.vec false 29 false s]) else none
theorem JzK (f : Nat) (s_z : Bool) (s_f : Bool) (s : List PV) (k : Res → Option Res) : JN tau Jvu Try.f136 (Try.f136.body.get!) Jic [] 0 [.ro 29 s_z s_f s] [] k = Jvv f s_z s_f s k := by kernel_rfl
theorem Jvw (f : Nat) : Ji (Try.f136.body.get!) Jic = [] := by kernel_rfl
theorem Jvx (f : Nat) : ∀ q ∈ Ji (Try.f136.body.get!) Jic, q.Ok tau Try.prog 0 := by
  rw [Jvw f]; intro q hq; cases hq
theorem JpD : Try.prog.funcs[136]? = some Try.f136 := by kernel_rfl
theorem JpE : Try.f136.body = some (Try.f136.body.get!) := by kernel_rfl
theorem Jvy : Enters Try.prog 136 := enters_of JpD (by kernel_rfl) JpE
noncomputable def JgL : List PV → List Ent → (Res → Option Res) → Option Res
  | [.ro 29 s_z s_f s], [], k => Jvv 0 s_z s_f s k
  | _, _, _ => none
noncomputable def Jvz : Sig := { own := [], run := JgL }
theorem JvA : Jk tau Try.prog 136 Jvz := JV Js Jnl Jt JpD JpE Jic [] 0 [] JgL (Jvx 0) fun xs es k res hr => by
  unfold JgL at hr
  split at hr
  · exact ⟨rfl, 0, (JzK 0 _ _ _  _).trans hr⟩
  · cases hr
-- FN slices.overlaps[[]byte]
-- EXT slices.overlaps[[]byte]
noncomputable def Jid : Sig := { own := [true, true], run := JhK 29 }
theorem JgM : VB tau (Jj5 Try.prog 157) Jid :=
  JtS (fn := Try.f157) (t := 47) (tR := 4) Js (by kernel_rfl) (by kernel_rfl) (by kernel_rfl) (by kernel_rfl) (by kernel_rfl) (by kernel_rfl) (by
    have h : tau.und 29 = some (.slice 5) := by kernel_rfl
    rw [h]; intro h; cases h)
noncomputable def JvB : Fns := JH 157 Jid (F0)
theorem Jnm : JA tau Try.prog JvB := (JJ).addV JgM
def Jie : An := (.seq .leaf (.seq .leaf (.seq .leaf (.seq (.seq .leaf (.cond (.seq .leaf .leaf) .leaf)) (.seq .leaf (.seq (.seq .leaf (.cond (.seq .leaf .leaf) .leaf)) (.seq (.seq .leaf (.cond (.seq .leaf (.seq .leaf (.seq .leaf (.seq .leaf .leaf)))) .leaf)) (.seq .leaf (.seq (.seq .leaf (.cond (.seq .leaf (.seq .leaf (.seq .leaf .leaf))) .leaf)) (.seq .leaf (.seq .leaf (.seq .leaf .leaf))))))))))))
noncomputable def JrO (f : Nat) (nl : Bool) (L : List PV) (n : Nat) (c : Nat) (x : PV) (k : Res → Option Res) : Option Res := bif decide (n + 1 ≤ (some c).getD (L.length - 0)) && true then bif decide (IntKind.i64.wrap (zi (n + 1) + zi 1) > zi c) then bif decide (0 ≤ IntKind.i64.wrap (IntKind.i64.wrap (zi (n + 1) + zi 1) - 0)) && decide (c - 0 < 0 + (IntKind.i64.wrap (IntKind.i64.wrap (zi (n + 1) + zi 1) - 0)).toNat) && Jj (0 + (IntKind.i64.wrap (IntKind.i64.wrap (zi (n + 1) + zi 1) - 0)).toNat) 24 && true then bif decide (0 + (IntKind.i64.wrap (IntKind.i64.wrap (zi (n + 1) + zi 1) - 0)).toNat ≤ none.getD ((List.replicate (IntKind.i64.wrap (IntKind.i64.wrap (zi (n + 1) + zi 1) - 0)).toNat (PV.ro 5 true true [])).length - 0)) && true then bif decide (1 ≤ 0 + (IntKind.i64.wrap (IntKind.i64.wrap (zi (n + 1) + zi 1) - 0)).toNat) && decide (0 + (IntKind.i64.wrap (IntKind.i64.wrap (zi (n + 1) + zi 1) - 0)).toNat ≤ none.getD ((List.take (0 + (IntKind.i64.wrap (IntKind.i64.wrap (zi (n + 1) + zi 1) - 0)).toNat - 0) [x] ++ List.drop (0 + min 1 (0 + (IntKind.i64.wrap (IntKind.i64.wrap (zi (n + 1) + zi 1) - 0)).toNat - 0)) (List.replicate (IntKind.i64.wrap (IntKind.i64.wrap (zi (n + 1) + zi 1) - 0)).toNat (PV.ro 5 true true []))).length - 0)) && true then bif decide (n + 1 ≤ (some c).getD (L.length - 0)) && true then k (Res.mk (.ro 29 false false (List.take (0 + (IntKind.i64.wrap (IntKind.i64.wrap (zi (n + 1) + zi 1) - 0)).toNat) (List.take 1 (List.take (0 + (IntKind.i64.wrap (IntKind.i64.wrap (zi (n + 1) + zi 1) - 0)).toNat - 0) [x] ++ List.drop (0 + min 1 (0 + (IntKind.i64.wrap (IntKind.i64.wrap (zi (n + 1) + zi 1) - 0)).toNat - 0)) (List.replicate (IntKind.i64.wrap (IntKind.i64.wrap (zi (n + 1) + zi 1) - 0)).toNat (PV.ro 5 true true []))) ++ List.take (0 + (IntKind.i64.wrap (IntKind.i64.wrap (zi (n + 1) + zi 1) - 0)).toNat - 1) (List.take (n + 1 - 0) L) ++ List.drop (1 + min (List.take (n + 1 - 0) L).length (0 + (IntKind.i64.wrap (IntKind.i64.wrap (zi (n + 1) + zi 1) - 0)).toNat - 1)) (List.take (0 + (IntKind.i64.wrap (IntKind.i64.wrap (zi (n + 1) + zi 1) - 0)).toNat - 0) [x] ++ List.drop (0 + min 1 (0 + (IntKind.i64.wrap (IntKind.i64.wrap (zi (n + 1) + zi 1) - 0)).toNat - 0)) (List.replicate (IntKind.i64.wrap (IntKind.i64.wrap (zi (n + 1) + zi 1) - 0)).toNat (PV.ro 5 true true [])))))) [.vec false 29 nl L, .vec false 29 false [x]] []) else none else none else none else none else bif decide (0 ≤ IntKind.i64.wrap (zi (n + 1) + zi 1)) && true && decide ((IntKind.i64.wrap (zi (n + 1) + zi 1)).toNat ≤ (some c).getD (L.length - 0)) && true then bif decide (1 ≤ (IntKind.i64.wrap (zi (n + 1) + zi 1)).toNat - 0) && decide ((IntKind.i64.wrap (zi (n + 1) + zi 1)).toNat - 0 ≤ (some (c - 0)).getD (L.length - 0)) && true then bif Nat.blt 0 ((IntKind.i64.wrap (zi (n + 1) + zi 1)).toNat - 0 - 1) && true then bif decide (1 ≤ (IntKind.i64.wrap (zi (n + 1) + zi 1)).toNat - 0) && decide ((IntKind.i64.wrap (zi (n + 1) + zi 1)).toNat - 0 ≤ (some (c - 0)).getD (L.length - 0)) && true then bif decide ((IntKind.i64.wrap (zi (n + 1) + zi 1)).toNat - 0 ≤ (some (c - 0)).getD (L.length - 0)) && true then bif decide ((IntKind.i64.wrap (zi (n + 1) + zi 1)).toNat - 0 ≤ (some (c - 0)).getD ((List.take 1 L ++ List.take ((IntKind.i64.wrap (zi (n + 1) + zi 1)).toNat - 0 - 1) (List.take ((IntKind.i64.wrap (zi (n + 1) + zi 1)).toNat - 0 - 0) L) ++ List.drop (1 + min (List.take ((IntKind.i64.wrap (zi (n + 1) + zi 1)).toNat - 0 - 0) L).length ((IntKind.i64.wrap (zi (n + 1) + zi 1)).toNat - 0 - 1)) L).length - 0)) && true then k (Res.mk (.ro 29 (Ent.vec false 29 nl (List.take ((IntKind.i64.wrap (zi (n + 1) + zi 1)).toNat - 0 - 0) [x] ++ List.drop (0 + min 1 ((IntKind.i64.wrap (zi (n + 1) + zi 1)).toNat - 0 - 0)) (List.take 1 L ++ List.take ((IntKind.i64.wrap (zi (n + 1) + zi 1)).toNat - 0 - 1) (List.take ((IntKind.i64.wrap (zi (n + 1) + zi 1)).toNat - 0 - 0) L) ++ List.drop (1 + min (List.take ((IntKind.i64.wrap (zi (n + 1) + zi 1)).toNat - 0 - 0) L).length ((IntKind.i64.wrap (zi (n + 1) + zi 1)).toNat - 0 - 1)) L))).nil false (List.take ((IntKind.i64.wrap (zi (n + 1) + zi 1)).toNat - 0) (List.take ((IntKind.i64.wrap (zi (n + 1) + zi 1)).toNat - 0 - 0) [x] ++ List.drop (0 + min 1 ((IntKind.i64.wrap (zi (n + 1) + zi 1)).toNat - 0 - 0)) (List.take 1 L ++ List.take ((IntKind.i64.wrap (zi (n + 1) + zi 1)).toNat - 0 - 1) (List.take ((IntKind.i64.wrap (zi (n + 1) + zi 1)).toNat - 0 - 0) L) ++ List.drop (1 + min (List.take ((IntKind.i64.wrap (zi (n + 1) + zi 1)).toNat - 0 - 0) L).length ((IntKind.i64.wrap (zi (n + 1) + zi 1)).toNat - 0 - 1)) L)))) [.vec true 29 nl (List.take ((IntKind.i64.wrap (zi (n + 1) + zi 1)).toNat - 0 - 0) [x] ++ List.drop (0 + min 1 ((IntKind.i64.wrap (zi (n + 1) + zi 1)).toNat - 0 - 0)) (List.take 1 L ++ List.take ((IntKind.i64.wrap (zi (n + 1) + zi 1)).toNat - 0 - 1) (List.take ((IntKind.i64.wrap (zi (n + 1) + zi 1)).toNat - 0 - 0) L) ++ List.drop (1 + min (List.take ((IntKind.i64.wrap (zi (n + 1) + zi 1)).toNat - 0 - 0) L).length ((IntKind.i64.wrap (zi (n + 1) + zi 1)).toNat - 0 - 1)) L)), .vec false 29 false [x]] []) else none else none else none else none else none else none else none
theorem JzL (f : Nat) (nl : Bool) (L : List PV) (n : Nat) (c : Nat) (x : PV) (k : Res → Option Res) : JN tau JvB Try.f140 (Try.f140.body.get!) Jie [.ro] 0 [.ow 29 0 [] 0 (n + 1) (some c), .sc (.int .i64 0), .ow 29 1 [] 0 1 (some 1)] [.vec false 29 nl L, .vec false 29 false [x]] k = JrO f nl L n c x k := by kernel_rfl
theorem JvC (f : Nat) : Ji (Try.f140.body.get!) Jie = [] := by kernel_rfl
theorem JvD (f : Nat) : ∀ q ∈ Ji (Try.f140.body.get!) Jie, q.Ok tau Try.prog 2 := by
  rw [JvC f]; intro q hq; cases hq
theorem JpF : Try.prog.funcs[140]? = some Try.f140 := by kernel_rfl
theorem JpG : Try.f140.body = some (Try.f140.body.get!) := by kernel_rfl
theorem JvE : Enters Try.prog 140 := enters_of JpF (by kernel_rfl) JpG
noncomputable def JpH : Fns := JH 157 Jid (F0)
theorem JkL : JA tau Try.prog JpH := (JJ).addV JgM
def Jdq : An := (.seq .leaf (.seq .leaf (.seq .leaf (.seq (.seq .leaf (.cond (.seq .leaf .leaf) .leaf)) (.seq .leaf (.seq (.seq .leaf (.cond (.seq .leaf .leaf) .leaf)) (.seq (.seq .leaf (.cond (.seq .leaf (.seq .leaf (.seq .leaf (.seq .leaf .leaf)))) .leaf)) (.seq .leaf (.seq (.seq .leaf (.cond (.seq .leaf (.seq .leaf (.seq .leaf .leaf))) .leaf)) (.seq .leaf (.seq .leaf (.seq .leaf .leaf))))))))))))
noncomputable def JvF (f : Nat) (x : PV) (k : Res → Option Res) : Option Res := k (Res.mk (.ro 29 false false [x]) [.vec false 29 false [x]] [])
theorem JvG (f : Nat) (x : PV) (k : Res → Option Res) : JN tau JpH Try.f140 (Try.f140.body.get!) Jdq [.ro] 0 [.ro 29 true true [], .sc (.int .i64 0), .ow 29 0 [] 0 1 (some 1)] [.vec false 29 false [x]] k = JvF f x k := by kernel_rfl
theorem JrP (f : Nat) : Ji (Try.f140.body.get!) Jdq = [] := by kernel_rfl
theorem JrQ (f : Nat) : ∀ q ∈ Ji (Try.f140.body.get!) Jdq, q.Ok tau Try.prog 1 := by
  rw [JrP f]; intro q hq; cases hq
theorem JrR : Try.prog.funcs[140]? = some Try.f140 := by kernel_rfl
theorem JrS : Try.f140.body = some (Try.f140.body.get!) := by kernel_rfl
noncomputable def JpI : Fns := JH 157 Jid (F0)
theorem JkM : JA tau Try.prog JpI := (JJ).addV JgM
def Jdr : An := (.seq .leaf (.seq .leaf (.seq .leaf (.seq (.seq .leaf (.cond (.seq .leaf .leaf) .leaf)) (.seq .leaf (.seq (.seq .leaf (.cond (.seq .leaf .leaf) .leaf)) (.seq (.seq .leaf (.cond (.seq .leaf (.seq .leaf (.seq .leaf (.seq .leaf .leaf)))) .leaf)) (.seq .leaf (.seq (.seq .leaf (.cond (.seq .leaf (.seq .leaf (.seq .leaf .leaf))) .leaf)) (.seq .leaf (.seq .leaf (.seq .leaf .leaf))))))))))))
noncomputable def JvH (f : Nat) (nl : Bool) (x : PV) (k : Res → Option Res) : Option Res := k (Res.mk (.ro 29 (Ent.vec false 29 (nl && ((Ent.vec false 29 false [x]).nil, List.take 1 (List.drop 0 [x])).snd.isEmpty) [x]).nil false [x]) [.dead, .vec false 29 false [x]] [])
theorem JvI (f : Nat) (nl : Bool) (x : PV) (k : Res → Option Res) : JN tau JpI Try.f140 (Try.f140.body.get!) Jdr [.ro] 0 [.ow 29 0 [] 0 0 none, .sc (.int .i64 0), .ow 29 1 [] 0 1 (some 1)] [.vec false 29 nl [], .vec false 29 false [x]] k = JvH f nl x k := by kernel_rfl
theorem JrT (f : Nat) : Ji (Try.f140.body.get!) Jdr = [] := by kernel_rfl
theorem JrU (f : Nat) : ∀ q ∈ Ji (Try.f140.body.get!) Jdr, q.Ok tau Try.prog 2 := by
  rw [JrT f]; intro q hq; cases hq
theorem JrV : Try.prog.funcs[140]? = some Try.f140 := by kernel_rfl
theorem JrW : Try.f140.body = some (Try.f140.body.get!) := by kernel_rfl
end Go.Proofs.Ytcklhipdldpkhaa.Rx
