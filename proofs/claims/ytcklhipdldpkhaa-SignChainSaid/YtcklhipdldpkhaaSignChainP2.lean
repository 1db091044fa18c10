/- What the functions of this law compute, and their plain laws. Conditions: none. -/
import Derived.KernelRfl
import Derived.Test.YtcklhipdldpkhaaSignChainP1
namespace Go.Proofs.Ytcklhipdldpkhaa.Rx
open Go
set_option linter.unusedVariables false
set_option linter.unusedSimpArgs false
set_option maxRecDepth 100000
set_option maxHeartbeats 0
-- FN slices.Insert[[][]byte,[]byte]
theorem Jt2 (els : List PV) (n : Nat) (hn : els.length = n + 1) (hb : n ≤ 1000000000) (c : Nat) (hc : n + 1 ≤ c) (x : PV) :
    ∃ r, Jqj 0 false (els ++ List.replicate (c - (n + 1)) .top) n c x some = some r ∧ ∃ p0 p1, r = ⟨.ro 29 false false (x :: els), [p0, p1], []⟩ := by
  have h1 : IntKind.i64.wrap (zi (n + 1) + zi 1) = ((n + 2 : Nat) : Int) := by simp only [zi]; rw [wrap_i64 (by omega) (by omega)]; omega
  have h2 : IntKind.i64.wrap (((n + 2 : Nat) : Int) - 0) = ((n + 2 : Nat) : Int) := by rw [wrap_i64 (by omega) (by omega)]; omega
  have h3 : (((n + 2 : Nat) : Int)).toNat = n + 2 := by omega
  have hL : (els ++ List.replicate (c - (n + 1)) PV.top).length = c := by simp; omega
  have hB : ∀ a b, a < b → Nat.blt a b = true := fun a b h => by rw [Nat.blt, Nat.ble_eq]; exact h
  unfold Jqj
  simp only [h1, h2, h3, Option.getD_some, Option.getD_none, Nat.sub_zero, Nat.zero_add, List.nil_append]
  have hbt : ∀ {c : Bool} {a b : Option Res} (h : c = true), (bif c then a else b) = a := fun h => Jb h
  by_cases hg : c < n + 2
  · obtain rfl : c = n + 1 := by omega
    have e0 : n + 1 - (n + 1) = 0 := by omega
    simp only [e0, List.replicate_zero, List.append_nil, List.length_append, List.length_take, List.length_drop, List.length_replicate, List.length_cons, List.length_nil]
    have t1 : List.take (n + 2) [x] = [x] := List.take_of_length_le (by simp)
    have t2 : List.take (n + 1) els = els := List.take_of_length_le (by omega)
    have t3 : List.take 1 ([x] ++ List.drop (min 1 (n + 2)) (List.replicate (n + 2) (PV.ro 5 true true []))) = [x] := by simp
    have hr : Jj (n + 2) 24 = true := by simp [Jj]; omega
    refine ⟨_, (hbt (by simp <;> omega)).trans ((hbt (by simp [zi] <;> omega)).trans ((hbt (by simp only [hr]; simp <;> omega)).trans ((hbt (by simp)).trans ((hbt (by simp <;> omega)).trans ((hbt (by simp <;> omega)).trans rfl))))), ?_⟩
    simp only [t1, t2, t3, hn]
    have t4 : List.take (n + 2 - 1) els = els := List.take_of_length_le (by omega)
    have t5 : List.drop (1 + min (min (n + 1) (n + 1)) (n + 2 - 1)) ([x] ++ List.drop (min 1 (n + 2)) (List.replicate (n + 2) (PV.ro 5 true true []))) = [] := List.drop_eq_nil_iff.2 (by simp; omega)
    rw [t4, t5]
    have t6 : List.take (n + 2) ([x] ++ els ++ []) = x :: els := by rw [List.take_of_length_le (by simp; omega)]; simp
    rw [t6]
    exact ⟨_, _, rfl⟩
  · have t1 : List.take (n + 2 - 1) (List.take (n + 2) (els ++ List.replicate (c - (n + 1)) PV.top)) = els := by
      rw [List.take_take, show min (n + 2 - 1) (n + 2) = els.length from by omega, List.take_left']
      rfl
    have t2 : (List.take (n + 2) (els ++ List.replicate (c - (n + 1)) PV.top)).length = n + 2 := by rw [List.length_take]; omega
    have t3 : List.take (n + 2) [x] = [x] := List.take_of_length_le (by simp)
    refine ⟨_, (hbt (by simp; omega)).trans ((JL (by simp [zi]; omega)).trans ((hbt (by simp; omega)).trans ((hbt (by simp; omega)).trans ((hbt (by rw [hB _ _ (by omega)]; rfl)).trans ((hbt (by simp; omega)).trans ((hbt (by simp; omega)).trans ((hbt (by simp; omega)).trans rfl))))))), ?_⟩
    simp only [t1, t2, t3]
    have hT : ∀ R : List PV, List.take (n + 2) ([x] ++ List.drop (min 1 (n + 2)) (List.take 1 (els ++ List.replicate (c - (n + 1)) PV.top) ++ els ++ R)) = x :: els := by
      intro R
      have hone : (List.take 1 (els ++ List.replicate (c - (n + 1)) PV.top)).length = 1 := by rw [List.length_take]; omega
      rw [show min 1 (n + 2) = 1 from by omega, List.append_assoc, List.drop_left' hone, ← List.append_assoc, List.take_left' (by simp; omega)]
      rfl
    rw [hT]
    exact ⟨_, _, rfl⟩
def JcS : List PV → List Ent → (Res → Option Res) → Option Res
  | [.ow 29 0 [] 0 m none, .sc (.int .i64 0), .ow 29 1 [] 0 1 (some 1)], [.vec false 29 false els, .vec false 29 false [x]], k => bif decide (m = els.length) && decide (els.length ≤ 1000000000) then k ⟨.ro 29 false false (x :: els), [.dead, .dead], []⟩ else none
  | [.ro 29 true true [], .sc (.int .i64 0), .ow 29 0 [] 0 1 (some 1)], [.vec false 29 false [x]], k => k ⟨.ro 29 false false [x], [.vec false 29 false [x]], []⟩
  | _, _, _ => none
def Jom : Sig := { own := [true, false, true], run := JcS }
theorem JjN : tau.isPtr 29 = false := by kernel_rfl
theorem Jqs : Ji tau Try.prog 140 Jom := Ji.mk' fun xs es k res hl hr => by
  change JcS xs es k = some res at hr
  unfold JcS at hr
  split at hr
  · rename_i m els x
    obtain ⟨hc, hr2⟩ := JI hr
    simp only [Bool.and_eq_true, decide_eq_true_eq] at hc
    obtain ⟨rfl, hb⟩ := hc
    by_cases h0 : els = []
    · subst h0
      have h1 := (Jt1 0 false x some)
      have h2 := Qo Jr JjM Js Jqq Jqr JcR [.ro] 2 0 (Jqp 0) hl rfl h1
      obtain ⟨r0, hr0, hc0⟩ := h2
      obtain rfl := Option.some.inj hr0
      refine ⟨_, hr2, fun im ow w us hus hi => (hc0 im ow w us hus hi).mono fun e w' hR => ?_⟩
      obtain ⟨u, im', ow', he, hv, G⟩ := hR
      refine ⟨u, im', ow', he, hv, ?_⟩
      have K := Good.kill (i := 1) (e := .vec false 29 false [x]) G.inv rfl
      have e1 : JO (JE [Ent.dead, .vec false 29 false [x]] []) 1 .dead = JE [.dead, .dead] [] := by
        funext i
        match i with
        | 0 => rfl
        | 1 => rfl
        | i + 2 => simp [JO, JE]
      rw [e1] at K
      exact G.trans K
    · obtain ⟨n, hn⟩ : ∃ n, els.length = n + 1 := ⟨els.length - 1, by have : 0 < els.length := List.length_pos_iff.2 h0; omega⟩
      refine JpG Jr (by omega) JjN JjN hr2 fun c hc => ?_
      obtain ⟨r, hg, p0, p1, rfl⟩ := Jt2 els n hn (by omega) c (by omega) x
      rw [hn]
      generalize els ++ List.replicate (c - (n + 1)) PV.top = L at hg ⊢
      refine ⟨p0, p1, ?_⟩
      have h1 := (JxG 0 false L n c x some).trans hg
      exact Qo Jr Jma Js Joi Joj Jhj [.ro] 2 0 (JtW 0) hl rfl h1
  · rename_i x
    exact Qo Jr JjL Js Jqm Jqn JcQ [.ro] 1 0 (Jql 0) hl rfl ((JtZ 0 x k).trans hr)
  · cases hr
noncomputable def Jt3 : Fns := F0
theorem Jmb : Jz tau Try.prog Jt3 := JH
def Jmc : Nm := [(0, .any), (2, .any), (3, .any), (5, .any)]
def Jqt : An := (.seq .leaf (.seq (.cond .leaf .leaf) (.seq (.block none (.seq .leaf .leaf)) .leaf)))
def Jhk : An := (.seq .leaf (.seq .leaf (.seq (.seq .leaf (.block none (.loop Jmc Jqt))) (.seq .leaf .leaf))))
noncomputable def Jt4 (f : Nat) (x : Int) (k : Res → Option Res) : Option Res := k (Res.mk (.ar 190 [.sc (.int .u8 x), .sc (.int .u8 x), .sc (.int .u8 x), .sc (.int .u8 x), .sc (.int .u8 x), .sc (.int .u8 x), .sc (.int .u8 x), .sc (.int .u8 x), .sc (.int .u8 x), .sc (.int .u8 x), .sc (.int .u8 x), .sc (.int .u8 x), .sc (.int .u8 x), .sc (.int .u8 x), .sc (.int .u8 x), .sc (.int .u8 x), .sc (.int .u8 x), .sc (.int .u8 x), .sc (.int .u8 x), .sc (.int .u8 x), .sc (.int .u8 x), .sc (.int .u8 x), .sc (.int .u8 x), .sc (.int .u8 x), .sc (.int .u8 x), .sc (.int .u8 x), .sc (.int .u8 x), .sc (.int .u8 x), .sc (.int .u8 x), .sc (.int .u8 x), .sc (.int .u8 x), .sc (.int .u8 x), .sc (.int .u8 x), .sc (.int .u8 x), .sc (.int .u8 x), .sc (.int .u8 x), .sc (.int .u8 x), .sc (.int .u8 x), .sc (.int .u8 x), .sc (.int .u8 x), .sc (.int .u8 x), .sc (.int .u8 x), .sc (.int .u8 x), .sc (.int .u8 x), .sc (.int .u8 x), .sc (.int .u8 x), .sc (.int .u8 x), .sc (.int .u8 x), .sc (.int .u8 x), .sc (.int .u8 x), .sc (.int .u8 x), .sc (.int .u8 x), .sc (.int .u8 x), .sc (.int .u8 x), .sc (.int .u8 x), .sc (.int .u8 x), .sc (.int .u8 x), .sc (.int .u8 x), .sc (.int .u8 x), .sc (.int .u8 x), .sc (.int .u8 x), .sc (.int .u8 x), .sc (.int .u8 x), .sc (.int .u8 x)]) [] [])
theorem JxH (f : Nat) (x : Int) (k : Res → Option Res) : JR tau Jt3 Try.f159 (Try.f159.body.get!) Jhk [.ro] 70 [.sc (.int .u8 x)] [] k = Jt4 f x k := by kernel_rfl
theorem Jt5 (f : Nat) : Jg (Try.f159.body.get!) Jhk = [] := by kernel_rfl
theorem Jt6 (f : Nat) : ∀ q ∈ Jg (Try.f159.body.get!) Jhk, q.Ok tau Try.prog 0 := by
  rw [Jt5 f]; intro q hq; cases hq
theorem Jon : Try.prog.funcs[159]? = some Try.f159 := by kernel_rfl
theorem Joo : Try.f159.body = some (Try.f159.body.get!) := by kernel_rfl
theorem Jt7 : Enters Try.prog 159 := enters_of Jon (by kernel_rfl) Joo
noncomputable def Jf1 : List PV → List Ent → (Res → Option Res) → Option Res
  | [.sc (.int .u8 x)], [], k => Jt4 0 x k
  | _, _, _ => none
noncomputable def Jt8 : Sig := { own := [], run := Jf1 }
theorem Jt9 : Ji tau Try.prog 159 Jt8 := J3 Jr Jmb Js Jon Joo Jhk [.ro] 0 [] Jf1 (Jt6 0) fun xs es k res hr => by
  unfold Jf1 at hr
  split at hr
  · exact ⟨rfl, 70, (JxH 0 _  _).trans hr⟩
  · cases hr
def Jbi : Nat := 26
noncomputable def JjO : Fns := JG 159 Jt8 (F0)
theorem Jhl : Jz tau Try.prog JjO := (JH).add Jt9 Jt7
noncomputable def Ga : Code := QA (Try.f141.body.get!) [1, 1, 1, 0, 1, 0, 0]
def Wu : Nm := [(2, .any), (5, .any), (13, .any)]
def W1 : Nm := [(5, .any)]
def JaM : An := (.seq .leaf (.seq (.cond .leaf .leaf) (.seq (.block none (.seq .leaf .leaf)) .leaf)))
def Jhm (r0 : Wg) : An := (.seq .leaf (.seq .leaf (.seq (.seq .leaf (.cond (.seq .leaf .leaf) .leaf)) (.seq (.seq .leaf (.block none (.sum Wu Jbi r0))) (.seq .leaf .leaf)))))
noncomputable def YO (f : Nat) (rc : Int → List PV → List PV → Option Res) (k0 : List PV → Option Res) (v0 : Int) (v1 : List PV) (v2 : List PV) : Option Res := bif decide (v0 < 64) then bif decide (0 ≤ v0) && decide (v0 < zi 64) && true then bif PV.isInt IntKind.u8 (Jm (PV.ar 190 v2) [v0.toNat]) && true then bif decide (0 ≤ v0) && decide (v0 < zi 64) && true then bif PV.isInt IntKind.u8 (Jm (PV.ar 190 v1) [v0.toNat]) && true then bif decide (0 ≤ v0) && decide (v0 < zi 64) && true then rc (IntKind.i64.wrap (v0 + 1)) v1 (v2.set v0.toNat (.sc (.int .u8 (JC BinOp.xor IntKind.u8 (Jm (PV.ar 190 v2) [v0.toNat]).int (Jm (PV.ar 190 v1) [v0.toNat]).int)))) else none else none else none else none else none else k0 v2
noncomputable def W2 (f : Nat) (k0 : List PV → Option Res) : Nat → Int → List PV → List PV → Option Res
  | 0, _, _, _ => none
  | n + 1, v0, v1, v2 => YO f (W2 f k0 n) k0 v0 v1 v2
theorem JjP (f : Nat) (k : Kont) (n : Nat) (v0 : Int) (v1 : List PV) (v2 : List PV) : Jo tau 0 Wu (fun s k => ev tau JjO 0 0 Ga (JaM ) s k) (n + 1) (Jd Wu Jbi [.ptr 432 [], .ptr 433 [], .sc (.int .i64 v0)] [(432, .box false 190 (PV.ar 190 v1)), (433, .box false 190 (PV.ar 190 v2))]) (Jy tau 0 W1 k) = YO f (fun v0 v1 v2 => Jo tau 0 Wu (fun s k => ev tau JjO 0 0 Ga (JaM ) s k) n (Jd Wu Jbi [.ptr 432 [], .ptr 433 [], .sc (.int .i64 v0)] [(432, .box false 190 (PV.ar 190 v1)), (433, .box false 190 (PV.ar 190 v2))]) (Jy tau 0 W1 k)) (fun x0 => k (Ex.exit 0) (Jd W1 Jbi [.ptr 432 []] [(432, .box false 190 (PV.ar 190 x0))])) v0 v1 v2 := by kernel_rfl
theorem Jet (f : Nat) (k : Kont) : ∀ (n : Nat) (v0 : Int) (v1 : List PV) (v2 : List PV), Jo tau 0 Wu (fun s k => ev tau JjO 0 0 Ga (JaM ) s k) n (Jd Wu Jbi [.ptr 432 [], .ptr 433 [], .sc (.int .i64 v0)] [(432, .box false 190 (PV.ar 190 v1)), (433, .box false 190 (PV.ar 190 v2))]) (Jy tau 0 W1 k) = W2 f (fun x0 => k (Ex.exit 0) (Jd W1 Jbi [.ptr 432 []] [(432, .box false 190 (PV.ar 190 x0))])) n v0 v1 v2 | 0, _, _, _ => rfl | n + 1, v0, v1, v2 => (JjP f k n v0 v1 v2).trans (congrArg (fun r => YO f r (fun x0 => k (Ex.exit 0) (Jd W1 Jbi [.ptr 432 []] [(432, .box false 190 (PV.ar 190 x0))])) v0 v1 v2) (by funext v0 v1 v2; exact Jet f k n v0 v1 v2))
noncomputable def ZN (f : Nat) : List PV → List (Nat × Ent) → Kont → Option Res
  | [.ptr 432 [], .ptr 433 [],
  PV.sc
    (Value.int IntKind.i64
      v0)], [(432, .box false 190 (PV.ar 190 v1)),
  (433, .box false 190 (PV.ar 190 v2))], k => W2 f (fun x0 => k (Ex.exit 0) (Jd W1 Jbi [.ptr 432 []] [(432, .box false 190 (PV.ar 190 x0))])) f v0 v1 v2
  | _, _, _ => none
theorem Jmd (f : Nat) : Jg Ga JaM = [] := by kernel_rfl
theorem Jqu (f : Nat) : (Item.l Ga Wu Jbi (ZN f)).Ok tau Try.prog 0 := JJ Jr Jhl Js (x := JaM) (nm2 := W1) (Jp _ _ (by rw [Jmd f]; intro q hq; cases hq)) fun vs hp k res hr => by
  unfold ZN at hr
  split at hr
  · exact ⟨f, 0, (Jet f _ f _ _ _ ).trans hr⟩
  · cases hr
noncomputable def Jme (f : Nat) (k1 : List PV) (x : Int) (k : Res → Option Res) : Option Res := bif decide (k1.length = 64) && true && Jf IntKind.u8 k1 && true && true then bif Qt k1 [.sc (.int .u8 0), .sc (.int .u8 0), .sc (.int .u8 0), .sc (.int .u8 0), .sc (.int .u8 0), .sc (.int .u8 0), .sc (.int .u8 0), .sc (.int .u8 0), .sc (.int .u8 0), .sc (.int .u8 0), .sc (.int .u8 0), .sc (.int .u8 0), .sc (.int .u8 0), .sc (.int .u8 0), .sc (.int .u8 0), .sc (.int .u8 0), .sc (.int .u8 0), .sc (.int .u8 0), .sc (.int .u8 0), .sc (.int .u8 0), .sc (.int .u8 0), .sc (.int .u8 0), .sc (.int .u8 0), .sc (.int .u8 0), .sc (.int .u8 0), .sc (.int .u8 0), .sc (.int .u8 0), .sc (.int .u8 0), .sc (.int .u8 0), .sc (.int .u8 0), .sc (.int .u8 0), .sc (.int .u8 0), .sc (.int .u8 0), .sc (.int .u8 0), .sc (.int .u8 0), .sc (.int .u8 0), .sc (.int .u8 0), .sc (.int .u8 0), .sc (.int .u8 0), .sc (.int .u8 0), .sc (.int .u8 0), .sc (.int .u8 0), .sc (.int .u8 0), .sc (.int .u8 0), .sc (.int .u8 0), .sc (.int .u8 0), .sc (.int .u8 0), .sc (.int .u8 0), .sc (.int .u8 0), .sc (.int .u8 0), .sc (.int .u8 0), .sc (.int .u8 0), .sc (.int .u8 0), .sc (.int .u8 0), .sc (.int .u8 0), .sc (.int .u8 0), .sc (.int .u8 0), .sc (.int .u8 0), .sc (.int .u8 0), .sc (.int .u8 0), .sc (.int .u8 0), .sc (.int .u8 0), .sc (.int .u8 0), .sc (.int .u8 0)] then k (Res.mk (.ro 5 false false [.sc (.int .u8 x), .sc (.int .u8 x), .sc (.int .u8 x), .sc (.int .u8 x), .sc (.int .u8 x), .sc (.int .u8 x), .sc (.int .u8 x), .sc (.int .u8 x), .sc (.int .u8 x), .sc (.int .u8 x), .sc (.int .u8 x), .sc (.int .u8 x), .sc (.int .u8 x), .sc (.int .u8 x), .sc (.int .u8 x), .sc (.int .u8 x), .sc (.int .u8 x), .sc (.int .u8 x), .sc (.int .u8 x), .sc (.int .u8 x), .sc (.int .u8 x), .sc (.int .u8 x), .sc (.int .u8 x), .sc (.int .u8 x), .sc (.int .u8 x), .sc (.int .u8 x), .sc (.int .u8 x), .sc (.int .u8 x), .sc (.int .u8 x), .sc (.int .u8 x), .sc (.int .u8 x), .sc (.int .u8 x), .sc (.int .u8 x), .sc (.int .u8 x), .sc (.int .u8 x), .sc (.int .u8 x), .sc (.int .u8 x), .sc (.int .u8 x), .sc (.int .u8 x), .sc (.int .u8 x), .sc (.int .u8 x), .sc (.int .u8 x), .sc (.int .u8 x), .sc (.int .u8 x), .sc (.int .u8 x), .sc (.int .u8 x), .sc (.int .u8 x), .sc (.int .u8 x), .sc (.int .u8 x), .sc (.int .u8 x), .sc (.int .u8 x), .sc (.int .u8 x), .sc (.int .u8 x), .sc (.int .u8 x), .sc (.int .u8 x), .sc (.int .u8 x), .sc (.int .u8 x), .sc (.int .u8 x), .sc (.int .u8 x), .sc (.int .u8 x), .sc (.int .u8 x), .sc (.int .u8 x), .sc (.int .u8 x), .sc (.int .u8 x)]) [] []) else W2 f (fun x0_0 => k (Res.mk (.ro 5 false false (List.take 64 x0_0)) [] [])) f (0) k1 ([.sc (.int .u8 x), .sc (.int .u8 x), .sc (.int .u8 x), .sc (.int .u8 x), .sc (.int .u8 x), .sc (.int .u8 x), .sc (.int .u8 x), .sc (.int .u8 x), .sc (.int .u8 x), .sc (.int .u8 x), .sc (.int .u8 x), .sc (.int .u8 x), .sc (.int .u8 x), .sc (.int .u8 x), .sc (.int .u8 x), .sc (.int .u8 x), .sc (.int .u8 x), .sc (.int .u8 x), .sc (.int .u8 x), .sc (.int .u8 x), .sc (.int .u8 x), .sc (.int .u8 x), .sc (.int .u8 x), .sc (.int .u8 x), .sc (.int .u8 x), .sc (.int .u8 x), .sc (.int .u8 x), .sc (.int .u8 x), .sc (.int .u8 x), .sc (.int .u8 x), .sc (.int .u8 x), .sc (.int .u8 x), .sc (.int .u8 x), .sc (.int .u8 x), .sc (.int .u8 x), .sc (.int .u8 x), .sc (.int .u8 x), .sc (.int .u8 x), .sc (.int .u8 x), .sc (.int .u8 x), .sc (.int .u8 x), .sc (.int .u8 x), .sc (.int .u8 x), .sc (.int .u8 x), .sc (.int .u8 x), .sc (.int .u8 x), .sc (.int .u8 x), .sc (.int .u8 x), .sc (.int .u8 x), .sc (.int .u8 x), .sc (.int .u8 x), .sc (.int .u8 x), .sc (.int .u8 x), .sc (.int .u8 x), .sc (.int .u8 x), .sc (.int .u8 x), .sc (.int .u8 x), .sc (.int .u8 x), .sc (.int .u8 x), .sc (.int .u8 x), .sc (.int .u8 x), .sc (.int .u8 x), .sc (.int .u8 x), .sc (.int .u8 x)]) else none
theorem JxI (f : Nat) (k1 : List PV) (x : Int) (k : Res → Option Res) : JR tau JjO Try.f141 (Try.f141.body.get!) (Jhm (ZN f)) [.ro] 0 [.ar 190 k1, .sc (.int .u8 x)] [] k = Jme f k1 x k := by kernel_rfl
theorem Jua (f : Nat) : Jg (Try.f141.body.get!) (Jhm (ZN f)) = [.l Ga Wu Jbi (ZN f)] := by kernel_rfl
theorem Jub (f : Nat) : ∀ q ∈ Jg (Try.f141.body.get!) (Jhm (ZN f)), q.Ok tau Try.prog 0 := by
  rw [Jua f]; simp only [List.forall_mem_cons, List.not_mem_nil, false_implies, implies_true, and_true]; exact Jqu f
theorem Jop : Try.prog.funcs[141]? = some Try.f141 := by kernel_rfl
theorem Joq : Try.f141.body = some (Try.f141.body.get!) := by kernel_rfl
theorem Juc : Enters Try.prog 141 := enters_of Jop (by kernel_rfl) Joq
-- FN (hmac.block).turned
def JS (l : List Int) (x : Int) : List Int := l.map fun b => JC .xor .u8 b x
@[simp] theorem Jeu (l : List Int) (x : Int) : (JS l x).length = l.length := by simp [JS]
theorem Jev (K : List Int) (hK : K.length = 64) (x : Int) : (List.range 64).map (fun j => JC .xor .u8 x (K.getD j 0)) = JS K x := by
  apply List.ext_getElem
  · simp [hK]
  · intro i h1 h2
    have h1' : i < K.length := by simpa using h2
    simp only [List.getElem_map, List.getElem_range, JS]
    rw [Zy, List.getD_eq_getElem?_getD, List.getElem?_eq_getElem h1']; rfl
theorem JjQ (K : List Int) (hK : K.length = 64) (x : Int) (f : Nat) (k0 : List PV → Option Res) : ∀ (d i n : Nat), i + d = 64 → d < n →
    W2 f k0 n (i : Int) (pu .u8 K) (pu .u8 (Qp (fun j => JC .xor .u8 x (K.getD j 0)) (List.replicate 64 x) i)) = k0 (pu .u8 (JS K x))
  | 0, i, n + 1, h, hn => by
      obtain rfl : i = 64 := by omega
      simp only [W2, YO]
      refine (JL (by decide)).trans ?_
      have := QL (fun j => JC .xor .u8 x (K.getD j 0)) (List.replicate 64 x)
      rw [List.length_replicate] at this
      rw [this, Jev K hK]
  | d + 1, i, n + 1, h, hn => by
      have g1 : ((i : Int)).toNat = i := by omega
      have h1 : IntKind.i64.wrap ((i : Int) + 1) = ((i + 1 : Nat) : Int) := by rw [wrap_i64 (by omega) (by omega)]; omega
      have c0 : (decide (0 ≤ (i : Int)) && decide ((i : Int) < zi 64) && true) = true := by simp; omega
      have hF := XG (fun j => JC .xor .u8 x (K.getD j 0)) (List.replicate 64 x) i (by simp; omega)
      rw [List.length_replicate] at hF
      simp only [W2, YO, g1, h1, Wp]
      rw [JT (by omega), JT (by omega), Qk (by omega), Qk (by omega), V6 _ _ _ (by simp; omega), Wk]
      refine (Jb (by simp; omega)).trans ((Jb c0).trans ((Jb rfl).trans ((Jb c0).trans ((Jb rfl).trans ((Jb c0).trans ?_)))))
      have := JjQ K hK x f k0 d (i + 1) n (by omega) (by omega)
      rw [← Ql _ _ i (by simp; omega)] at this
      rw [show (List.replicate 64 x).getD i 0 = x from by rw [List.getD_eq_getElem?_getD, List.getElem?_replicate, if_pos (by omega)]; rfl]
      exact this
theorem Jud : JS (List.replicate 64 0) 54 = List.replicate 64 54 ∧ JS (List.replicate 64 0) 92 = List.replicate 64 92 := by
  have h1 : JC .xor .u8 0 54 = 54 := by decide
  have h2 : JC .xor .u8 0 92 = 92 := by decide
  simp only [JS, List.map_replicate, h1, h2, and_self]
theorem Jiz (l : List PV) (x : Int) (k : Res → Option Res) : Jme 70 l x k =
    (bif decide (l.length = 64) && true && Jf IntKind.u8 l && true && true then
      (bif Qt l (pu .u8 (List.replicate 64 0)) then k ⟨.ro 5 false false (pu .u8 (List.replicate 64 x)), [], []⟩
      else W2 70 (fun x0_0 => k (Res.mk (PV.ro 5 false false (List.take 64 x0_0)) [] [])) 70 0 l (pu .u8 (List.replicate 64 x)))
    else none) := by kernel_rfl
theorem Jmf (K : List Int) (hK : K.length = 64) (x : Int) (hx : x = 54 ∨ x = 92) (k : Res → Option Res) : Jme 70 (pu .u8 K) x k = k ⟨.ro 5 false false (pu .u8 (JS K x)), [], []⟩ := by
  have h0 := JjQ K hK x 70 (fun x0_0 => k (Res.mk (PV.ro 5 false false (List.take 64 x0_0)) [] [])) 64 0 70 (by omega) (by omega)
  rw [Qw, List.take_of_length_le (by simp [hK])] at h0
  rw [Jiz, Jb (by simp [hK]), Xn]
  by_cases hk : K = List.replicate 64 0
  · have h1 : JS K x = List.replicate 64 x := by
      rw [hk]
      rcases hx with h | h
      · rw [h]; exact Jud.1
      · rw [h]; exact Jud.2
    rw [Jb (beq_iff_eq.2 hk), h1]
  · rw [JL (beq_eq_false_iff_ne.2 hk)]
    exact h0
def JcT : List PV → List Ent → (Res → Option Res) → Option Res
  | [.ar 190 l, .sc (.int .u8 x)], [], k => bif Jf .u8 l && decide (l.length = 64) && (x == 54 || x == 92) then k ⟨.ro 5 false false (pu .u8 (JS (Je l) x)), [], []⟩ else none
  | _, _, _ => none
def Jor : Sig := { own := [], run := JcT }
theorem Jqv : Ji tau Try.prog 141 Jor := Ji.mk' fun xs es k res hl hr => by
  change JcT xs es k = some res at hr
  unfold JcT at hr
  split at hr
  · rename_i l x
    obtain ⟨hc, hr2⟩ := JI hr
    simp only [Bool.and_eq_true, decide_eq_true_eq, Bool.or_eq_true, beq_iff_eq] at hc
    have hp := Qa hc.1.1
    have h2 : Jme 70 l x k = some res := by
      rw [hp, Jmf _ (by simpa using hc.1.2) x hc.2]; exact hr2
    have h1 := (JxI 70 l x k).trans h2
    exact Qo Jr Jhl Js Jop Joq (Jhm (ZN 70)) [.ro] 0 0 (Jub 70) hl rfl h1
  · cases hr
noncomputable abbrev z80 : List PV := [PV.sc (.int .u8 0), PV.sc (.int .u8 0), PV.sc (.int .u8 0), PV.sc (.int .u8 0), PV.sc (.int .u8 0), PV.sc (.int .u8 0), PV.sc (.int .u8 0), PV.sc (.int .u8 0), PV.sc (.int .u8 0), PV.sc (.int .u8 0), PV.sc (.int .u8 0), PV.sc (.int .u8 0), PV.sc (.int .u8 0), PV.sc (.int .u8 0), PV.sc (.int .u8 0), PV.sc (.int .u8 0), PV.sc (.int .u8 0), PV.sc (.int .u8 0), PV.sc (.int .u8 0), PV.sc (.int .u8 0), PV.sc (.int .u8 0), PV.sc (.int .u8 0), PV.sc (.int .u8 0), PV.sc (.int .u8 0), PV.sc (.int .u8 0), PV.sc (.int .u8 0), PV.sc (.int .u8 0), PV.sc (.int .u8 0), PV.sc (.int .u8 0), PV.sc (.int .u8 0), PV.sc (.int .u8 0), PV.sc (.int .u8 0), PV.sc (.int .u8 0), PV.sc (.int .u8 0), PV.sc (.int .u8 0), PV.sc (.int .u8 0), PV.sc (.int .u8 0), PV.sc (.int .u8 0), PV.sc (.int .u8 0), PV.sc (.int .u8 0), PV.sc (.int .u8 0), PV.sc (.int .u8 0), PV.sc (.int .u8 0), PV.sc (.int .u8 0), PV.sc (.int .u8 0), PV.sc (.int .u8 0), PV.sc (.int .u8 0), PV.sc (.int .u8 0), PV.sc (.int .u8 0), PV.sc (.int .u8 0), PV.sc (.int .u8 0), PV.sc (.int .u8 0), PV.sc (.int .u8 0), PV.sc (.int .u8 0), PV.sc (.int .u8 0), PV.sc (.int .u8 0), PV.sc (.int .u8 0), PV.sc (.int .u8 0), PV.sc (.int .u8 0), PV.sc (.int .u8 0), PV.sc (.int .u8 0), PV.sc (.int .u8 0), PV.sc (.int .u8 0), PV.sc (.int .u8 0)]
noncomputable def F80 : Fns := JG 141 Jor (JG 140 Jom (JG 136 JtS (JG 27 Jqi (F0))))
theorem Jqw : Jz tau Try.prog F80 := ((((JH).add Jof JtM).add JtT JtR).add Jqs JtX).add Jqv Juc
def Jmg : An := (.seq .leaf (.seq (.seq .leaf (.cond (.seq .leaf .leaf) .leaf)) (.seq .leaf (.seq .leaf (.seq .leaf (.seq .leaf .leaf))))))
noncomputable def g80 (f : Nat) (key_z : Bool) (key_f : Bool) (key : List PV) (parts_z : Bool) (parts_f : Bool) (parts : List PV) (k : Res → Option Res) : Option Res := bif decide (zi key.length > 64) then bif Jf IntKind.u8 (Jk [PV.ro 5 key_z key_f key]) && decide ((Jk [PV.ro 5 key_z key_f key]).length ≤ 140737488355000) then bif parts_z then bif Jf IntKind.u8 (List.take 64 (List.take 32 (pu IntKind.u8 (Jt (Je (Jk [PV.ro 5 key_z key_f key]))))) ++ List.drop (0 + min (List.take 32 (pu IntKind.u8 (Jt (Je (Jk [PV.ro 5 key_z key_f key]))))).length 64) z80) && decide ((List.take 64 (List.take 32 (pu IntKind.u8 (Jt (Je (Jk [PV.ro 5 key_z key_f key]))))) ++ List.drop (0 + min (List.take 32 (pu IntKind.u8 (Jt (Je (Jk [PV.ro 5 key_z key_f key]))))).length 64) z80).length = 64) && true then bif Jf IntKind.u8 (Jk [PV.ro 5 false false (pu IntKind.u8 (JS (Je (List.take 64 (List.take 32 (pu IntKind.u8 (Jt (Je (Jk [PV.ro 5 key_z key_f key]))))) ++ List.drop (0 + min (List.take 32 (pu IntKind.u8 (Jt (Je (Jk [PV.ro 5 key_z key_f key]))))).length 64) z80)) 54))]) && decide ((Jk [PV.ro 5 false false (pu IntKind.u8 (JS (Je (List.take 64 (List.take 32 (pu IntKind.u8 (Jt (Je (Jk [PV.ro 5 key_z key_f key]))))) ++ List.drop (0 + min (List.take 32 (pu IntKind.u8 (Jt (Je (Jk [PV.ro 5 key_z key_f key]))))).length 64) z80)) 54))]).length ≤ 140737488355000) then bif Jf IntKind.u8 (List.take 64 (List.take 32 (pu IntKind.u8 (Jt (Je (Jk [PV.ro 5 key_z key_f key]))))) ++ List.drop (0 + min (List.take 32 (pu IntKind.u8 (Jt (Je (Jk [PV.ro 5 key_z key_f key]))))).length 64) z80) && decide ((List.take 64 (List.take 32 (pu IntKind.u8 (Jt (Je (Jk [PV.ro 5 key_z key_f key]))))) ++ List.drop (0 + min (List.take 32 (pu IntKind.u8 (Jt (Je (Jk [PV.ro 5 key_z key_f key]))))).length 64) z80).length = 64) && true then bif Jf IntKind.u8 (Jk [PV.ro 5 false false (pu IntKind.u8 (JS (Je (List.take 64 (List.take 32 (pu IntKind.u8 (Jt (Je (Jk [PV.ro 5 key_z key_f key]))))) ++ List.drop (0 + min (List.take 32 (pu IntKind.u8 (Jt (Je (Jk [PV.ro 5 key_z key_f key]))))).length 64) z80)) 92)), PV.ro 5 false false (List.take 32 (pu IntKind.u8 (Jt (Je (Jk [PV.ro 5 false false (pu IntKind.u8 (JS (Je (List.take 64 (List.take 32 (pu IntKind.u8 (Jt (Je (Jk [PV.ro 5 key_z key_f key]))))) ++ List.drop (0 + min (List.take 32 (pu IntKind.u8 (Jt (Je (Jk [PV.ro 5 key_z key_f key]))))).length 64) z80)) 54))])))))]) && decide ((Jk [PV.ro 5 false false (pu IntKind.u8 (JS (Je (List.take 64 (List.take 32 (pu IntKind.u8 (Jt (Je (Jk [PV.ro 5 key_z key_f key]))))) ++ List.drop (0 + min (List.take 32 (pu IntKind.u8 (Jt (Je (Jk [PV.ro 5 key_z key_f key]))))).length 64) z80)) 92)), PV.ro 5 false false (List.take 32 (pu IntKind.u8 (Jt (Je (Jk [PV.ro 5 false false (pu IntKind.u8 (JS (Je (List.take 64 (List.take 32 (pu IntKind.u8 (Jt (Je (Jk [PV.ro 5 key_z key_f key]))))) ++ List.drop (0 + min (List.take 32 (pu IntKind.u8 (Jt (Je (Jk [PV.ro 5 key_z key_f key]))))).length 64) z80)) 54))])))))]).length ≤ 140737488355000) then k (Res.mk (PV.ar 37 (pu IntKind.u8 (Jt (Je (Jk [PV.ro 5 false false (pu IntKind.u8 (JS (Je (List.take 64 (List.take 32 (pu IntKind.u8 (Jt (Je (Jk [PV.ro 5 key_z key_f key]))))) ++ List.drop (0 + min (List.take 32 (pu IntKind.u8 (Jt (Je (Jk [PV.ro 5 key_z key_f key]))))).length 64) z80)) 92)), PV.ro 5 false false (List.take 32 (pu IntKind.u8 (Jt (Je (Jk [PV.ro 5 false false (pu IntKind.u8 (JS (Je (List.take 64 (List.take 32 (pu IntKind.u8 (Jt (Je (Jk [PV.ro 5 key_z key_f key]))))) ++ List.drop (0 + min (List.take 32 (pu IntKind.u8 (Jt (Je (Jk [PV.ro 5 key_z key_f key]))))).length 64) z80)) 54))])))))]))))) [] []) else none else none else none else none else bif Jj (0 + parts.length) 24 && true then bif Jf IntKind.u8 (List.take 64 (List.take 32 (pu IntKind.u8 (Jt (Je (Jk [PV.ro 5 key_z key_f key]))))) ++ List.drop (0 + min (List.take 32 (pu IntKind.u8 (Jt (Je (Jk [PV.ro 5 key_z key_f key]))))).length 64) z80) && decide ((List.take 64 (List.take 32 (pu IntKind.u8 (Jt (Je (Jk [PV.ro 5 key_z key_f key]))))) ++ List.drop (0 + min (List.take 32 (pu IntKind.u8 (Jt (Je (Jk [PV.ro 5 key_z key_f key]))))).length 64) z80).length = 64) && true then bif decide (0 + parts.length = parts.length) && decide (parts.length ≤ 1000000000) then bif parts.all (PV.isRo 5) && decide ((PV.ro 5 false false (pu IntKind.u8 (JS (Je (List.take 64 (List.take 32 (pu IntKind.u8 (Jt (Je (Jk [PV.ro 5 key_z key_f key]))))) ++ List.drop (0 + min (List.take 32 (pu IntKind.u8 (Jt (Je (Jk [PV.ro 5 key_z key_f key]))))).length 64) z80)) 54)) :: parts).length ≤ 140737488355328) && (Jf IntKind.u8 (Jk (PV.ro 5 false false (pu IntKind.u8 (JS (Je (List.take 64 (List.take 32 (pu IntKind.u8 (Jt (Je (Jk [PV.ro 5 key_z key_f key]))))) ++ List.drop (0 + min (List.take 32 (pu IntKind.u8 (Jt (Je (Jk [PV.ro 5 key_z key_f key]))))).length 64) z80)) 54)) :: parts)) && decide ((Jk (PV.ro 5 false false (pu IntKind.u8 (JS (Je (List.take 64 (List.take 32 (pu IntKind.u8 (Jt (Je (Jk [PV.ro 5 key_z key_f key]))))) ++ List.drop (0 + min (List.take 32 (pu IntKind.u8 (Jt (Je (Jk [PV.ro 5 key_z key_f key]))))).length 64) z80)) 54)) :: parts)).length ≤ 140737488355000)) then bif Jf IntKind.u8 (List.take 64 (List.take 32 (pu IntKind.u8 (Jt (Je (Jk [PV.ro 5 key_z key_f key]))))) ++ List.drop (0 + min (List.take 32 (pu IntKind.u8 (Jt (Je (Jk [PV.ro 5 key_z key_f key]))))).length 64) z80) && decide ((List.take 64 (List.take 32 (pu IntKind.u8 (Jt (Je (Jk [PV.ro 5 key_z key_f key]))))) ++ List.drop (0 + min (List.take 32 (pu IntKind.u8 (Jt (Je (Jk [PV.ro 5 key_z key_f key]))))).length 64) z80).length = 64) && true then bif Jf IntKind.u8 (Jk [PV.ro 5 false false (pu IntKind.u8 (JS (Je (List.take 64 (List.take 32 (pu IntKind.u8 (Jt (Je (Jk [PV.ro 5 key_z key_f key]))))) ++ List.drop (0 + min (List.take 32 (pu IntKind.u8 (Jt (Je (Jk [PV.ro 5 key_z key_f key]))))).length 64) z80)) 92)), PV.ro 5 false false (List.take 32 (pu IntKind.u8 (Jt (Je (Jk (PV.ro 5 false false (pu IntKind.u8 (JS (Je (List.take 64 (List.take 32 (pu IntKind.u8 (Jt (Je (Jk [PV.ro 5 key_z key_f key]))))) ++ List.drop (0 + min (List.take 32 (pu IntKind.u8 (Jt (Je (Jk [PV.ro 5 key_z key_f key]))))).length 64) z80)) 54)) :: parts))))))]) && decide ((Jk [PV.ro 5 false false (pu IntKind.u8 (JS (Je (List.take 64 (List.take 32 (pu IntKind.u8 (Jt (Je (Jk [PV.ro 5 key_z key_f key]))))) ++ List.drop (0 + min (List.take 32 (pu IntKind.u8 (Jt (Je (Jk [PV.ro 5 key_z key_f key]))))).length 64) z80)) 92)), PV.ro 5 false false (List.take 32 (pu IntKind.u8 (Jt (Je (Jk (PV.ro 5 false false (pu IntKind.u8 (JS (Je (List.take 64 (List.take 32 (pu IntKind.u8 (Jt (Je (Jk [PV.ro 5 key_z key_f key]))))) ++ List.drop (0 + min (List.take 32 (pu IntKind.u8 (Jt (Je (Jk [PV.ro 5 key_z key_f key]))))).length 64) z80)) 54)) :: parts))))))]).length ≤ 140737488355000) then k (Res.mk (PV.ar 37 (pu IntKind.u8 (Jt (Je (Jk [PV.ro 5 false false (pu IntKind.u8 (JS (Je (List.take 64 (List.take 32 (pu IntKind.u8 (Jt (Je (Jk [PV.ro 5 key_z key_f key]))))) ++ List.drop (0 + min (List.take 32 (pu IntKind.u8 (Jt (Je (Jk [PV.ro 5 key_z key_f key]))))).length 64) z80)) 92)), PV.ro 5 false false (List.take 32 (pu IntKind.u8 (Jt (Je (Jk (PV.ro 5 false false (pu IntKind.u8 (JS (Je (List.take 64 (List.take 32 (pu IntKind.u8 (Jt (Je (Jk [PV.ro 5 key_z key_f key]))))) ++ List.drop (0 + min (List.take 32 (pu IntKind.u8 (Jt (Je (Jk [PV.ro 5 key_z key_f key]))))).length 64) z80)) 54)) :: parts))))))]))))) [] []) else none else none else none else none else none else none else none else bif parts_z then bif Jf IntKind.u8 (List.take 64 key ++ List.drop (0 + min key.length 64) z80) && decide ((List.take 64 key ++ List.drop (0 + min key.length 64) z80).length = 64) && true then bif Jf IntKind.u8 (Jk [PV.ro 5 false false (pu IntKind.u8 (JS (Je (List.take 64 key ++ List.drop (0 + min key.length 64) z80)) 54))]) && decide ((Jk [PV.ro 5 false false (pu IntKind.u8 (JS (Je (List.take 64 key ++ List.drop (0 + min key.length 64) z80)) 54))]).length ≤ 140737488355000) then bif Jf IntKind.u8 (List.take 64 key ++ List.drop (0 + min key.length 64) z80) && decide ((List.take 64 key ++ List.drop (0 + min key.length 64) z80).length = 64) && true then bif Jf IntKind.u8 (Jk [PV.ro 5 false false (pu IntKind.u8 (JS (Je (List.take 64 key ++ List.drop (0 + min key.length 64) z80)) 92)), PV.ro 5 false false (List.take 32 (pu IntKind.u8 (Jt (Je (Jk [PV.ro 5 false false (pu IntKind.u8 (JS (Je (List.take 64 key ++ List.drop (0 + min key.length 64) z80)) 54))])))))]) && decide ((Jk [PV.ro 5 false false (pu IntKind.u8 (JS (Je (List.take 64 key ++ List.drop (0 + min key.length 64) z80)) 92)), PV.ro 5 false false (List.take 32 (pu IntKind.u8 (Jt (Je (Jk [PV.ro 5 false false (pu IntKind.u8 (JS (Je (List.take 64 key ++ List.drop (0 + min key.length 64) z80)) 54))])))))]).length ≤ 140737488355000) then k (Res.mk (PV.ar 37 (pu IntKind.u8 (Jt (Je (Jk [PV.ro 5 false false (pu IntKind.u8 (JS (Je (List.take 64 key ++ List.drop (0 + min key.length 64) z80)) 92)), PV.ro 5 false false (List.take 32 (pu IntKind.u8 (Jt (Je (Jk [PV.ro 5 false false (pu IntKind.u8 (JS (Je (List.take 64 key ++ List.drop (0 + min key.length 64) z80)) 54))])))))]))))) [] []) else none else none else none else none else bif Jj (0 + parts.length) 24 && true then bif Jf IntKind.u8 (List.take 64 key ++ List.drop (0 + min key.length 64) z80) && decide ((List.take 64 key ++ List.drop (0 + min key.length 64) z80).length = 64) && true then bif decide (0 + parts.length = parts.length) && decide (parts.length ≤ 1000000000) then bif parts.all (PV.isRo 5) && decide ((PV.ro 5 false false (pu IntKind.u8 (JS (Je (List.take 64 key ++ List.drop (0 + min key.length 64) z80)) 54)) :: parts).length ≤ 140737488355328) && (Jf IntKind.u8 (Jk (PV.ro 5 false false (pu IntKind.u8 (JS (Je (List.take 64 key ++ List.drop (0 + min key.length 64) z80)) 54)) :: parts)) && decide ((Jk (PV.ro 5 false false (pu IntKind.u8 (JS (Je (List.take 64 key ++ List.drop (0 + min key.length 64) z80)) 54)) :: parts)).length ≤ 140737488355000)) then bif Jf IntKind.u8 (List.take 64 key ++ List.drop (0 + min key.length 64) z80) && decide ((List.take 64 key ++ List.drop (0 + min key.length 64) z80).length = 64) && true then bif Jf IntKind.u8 (Jk [PV.ro 5 false false (pu IntKind.u8 (JS (Je (List.take 64 key ++ List.drop (0 + min key.length 64) z80)) 92)), PV.ro 5 false false (List.take 32 (pu IntKind.u8 (Jt (Je (Jk (PV.ro 5 false false (pu IntKind.u8 (JS (Je (List.take 64 key ++ List.drop (0 + min key.length 64) z80)) 54)) :: parts))))))]) && decide ((Jk [PV.ro 5 false false (pu IntKind.u8 (JS (Je (List.take 64 key ++ List.drop (0 + min key.length 64) z80)) 92)), PV.ro 5 false false (List.take 32 (pu IntKind.u8 (Jt (Je (Jk (PV.ro 5 false false (pu IntKind.u8 (JS (Je (List.take 64 key ++ List.drop (0 + min key.length 64) z80)) 54)) :: parts))))))]).length ≤ 140737488355000) then k (Res.mk (PV.ar 37 (pu IntKind.u8 (Jt (Je (Jk [PV.ro 5 false false (pu IntKind.u8 (JS (Je (List.take 64 key ++ List.drop (0 + min key.length 64) z80)) 92)), PV.ro 5 false false (List.take 32 (pu IntKind.u8 (Jt (Je (Jk (PV.ro 5 false false (pu IntKind.u8 (JS (Je (List.take 64 key ++ List.drop (0 + min key.length 64) z80)) 54)) :: parts))))))]))))) [] []) else none else none else none else none else none else none
theorem e80 (f : Nat) (key_z : Bool) (key_f : Bool) (key : List PV) (parts_z : Bool) (parts_f : Bool) (parts : List PV) (k : Res → Option Res) : JR tau F80 Try.f80 (Try.f80.body.get!) Jmg [.ro] 0 [.ro 5 key_z key_f key, .ro 29 parts_z parts_f parts] [] k = g80 f key_z key_f key parts_z parts_f parts k := by kernel_rfl
theorem JxJ (f : Nat) : Jg (Try.f80.body.get!) Jmg = [] := by kernel_rfl
theorem JxK (f : Nat) : ∀ q ∈ Jg (Try.f80.body.get!) Jmg, q.Ok tau Try.prog 0 := by
  rw [JxJ f]; intro q hq; cases hq
theorem Jue : Try.prog.funcs[80]? = some Try.f80 := by kernel_rfl
theorem Juf : Try.f80.body = some (Try.f80.body.get!) := by kernel_rfl
theorem Jmh : Enters Try.prog 80 := enters_of Jue (by kernel_rfl) Juf
noncomputable def JjR : List PV → List Ent → (Res → Option Res) → Option Res
  | [.ro 5 key_z key_f key, .ro 29 parts_z parts_f parts], [], k => g80 0 key_z key_f key parts_z parts_f parts k
  | _, _, _ => none
noncomputable def s80 : Sig := { own := [], run := JjR }
theorem JxL : Ji tau Try.prog 80 s80 := J3 Jr Jqw Js Jue Juf Jmg [.ro] 0 [] JjR (JxK 0) fun xs es k res hr => by
  unfold JjR at hr
  split at hr
  · exact ⟨rfl, 0, (e80 0 _ _ _ _ _ _  _).trans hr⟩
  · cases hr
-- FN hmac.Mac
theorem YP (a b : List PV) : Je (a ++ b) = Je a ++ Je b := by simp [Je]
@[simp] theorem Jug : Je [] = [] := rfl
/-- a key, with noughts behind it -/
def JiA (s : List Int) : List Int := s ++ List.replicate (64 - s.length) 0
def Vv (key : List Int) : List Int := if key.length > 64 then JiA (Jt key) else JiA key
def Jew (key text : List Int) : List Int := Jt (JS (Vv key) 92 ++ Jt (JS (Vv key) 54 ++ text))
noncomputable def Q1 : List Int → List Int → List Int := hid Jew
theorem G1 (key text : List Int) : Q1 key text = Jew key text := by rw [Q1, hid_eq]
theorem GF (key text : List Int) : (Q1 key text).length = 32 := by rw [G1]; exact JX _
theorem W3 (key : List Int) : (Vv key).length = 64 := by
  unfold Vv JiA
  split
  · rw [List.length_append, JX, List.length_replicate]
  · rw [List.length_append, List.length_replicate]; omega
def x54 (kb : List PV) : PV := .ro 5 false false (pu .u8 (JS (Je kb) 54))
def x92 (kb : List PV) : PV := .ro 5 false false (pu .u8 (JS (Je kb) 92))
def t32 (l : List PV) : PV := .ro 5 false false (List.take 32 (pu .u8 (Jt (Je (Jk l)))))
def kbG (src : List PV) : List PV := [] ++ List.take 64 src ++ List.drop (0 + min src.length 64) (pu .u8 (List.replicate 64 0))
def Vw (pz : Bool) (parts kb : List PV) (k : Res → Option Res) : Option Res :=
  bif pz then
    bif Jf .u8 kb && decide (kb.length = 64) && true then
      bif Jf .u8 (Jk [x54 kb]) && decide ((Jk [x54 kb]).length ≤ 140737488355000) then
        bif Jf .u8 kb && decide (kb.length = 64) && true then
          bif Jf .u8 (Jk [x92 kb, t32 [x54 kb]]) && decide ((Jk [x92 kb, t32 [x54 kb]]).length ≤ 140737488355000) then
            k ⟨.ar 37 (pu .u8 (Jt (Je (Jk [x92 kb, t32 [x54 kb]])))), [], []⟩
          else none
        else none
      else none
    else none
  else bif Jj (0 + parts.length) 24 && true then
    bif Jf .u8 kb && decide (kb.length = 64) && true then
      bif decide (0 + parts.length = ([] ++ parts).length) && decide (([] ++ parts).length ≤ 1000000000) then
        bif ([] ++ parts).all (PV.isRo 5) && decide ((x54 kb :: ([] ++ parts)).length ≤ 140737488355328) && (Jf .u8 (Jk (x54 kb :: ([] ++ parts))) && decide ((Jk (x54 kb :: ([] ++ parts))).length ≤ 140737488355000)) then
          bif Jf .u8 kb && decide (kb.length = 64) && true then
            bif Jf .u8 (Jk [x92 kb, t32 (x54 kb :: ([] ++ parts))]) && decide ((Jk [x92 kb, t32 (x54 kb :: ([] ++ parts))]).length ≤ 140737488355000) then
              k ⟨.ar 37 (pu .u8 (Jt (Je (Jk [x92 kb, t32 (x54 kb :: ([] ++ parts))])))), [], []⟩
            else none
          else none
        else none
      else none
    else none
  else none
theorem JjS (kz kf : Bool) (key : List PV) (pz pf : Bool) (parts : List PV) (k : Res → Option Res) : g80 0 kz kf key pz pf parts k =
    (bif decide (zi key.length > 64) then
      bif Jf .u8 (Jk [.ro 5 kz kf key]) && decide ((Jk [.ro 5 kz kf key]).length ≤ 140737488355000) then
        Vw pz parts (kbG (List.take 32 (pu .u8 (Jt (Je (Jk [.ro 5 kz kf key])))))) k
      else none
    else Vw pz parts (kbG key) k) := by kernel_rfl
theorem JcU (s : List Int) (h : s.length ≤ 64) : kbG (pu .u8 s) = pu .u8 (JiA s) := by
  unfold kbG JiA
  rw [JF, show 0 + min s.length 64 = s.length from by omega, JgN, List.drop_replicate, List.take_of_length_le (by simpa using h), List.nil_append, ← JN]
theorem JaN (K : List Int) (hK : K.length = 64) (pz : Bool) (parts : List PV) (hz : pz = true → parts = []) (h1 : parts.all (PV.isRo 5) = true) (h2 : parts.length ≤ 1000000) (h3 : Jf .u8 (Jk parts) = true) (h4 : (Jk parts).length ≤ 1000000000) (k : Res → Option Res) :
    Vw pz parts (pu .u8 K) k = k ⟨.ar 37 (pu .u8 (Jt (JS K 92 ++ Jt (JS K 54 ++ Je (Jk parts))))), [], []⟩ := by
  have hk : (Jf .u8 (pu .u8 K) && decide ((pu .u8 K).length = 64) && true) = true := by simp [hK]
  have e54 : x54 (pu .u8 K) = .ro 5 false false (pu .u8 (JS K 54)) := by simp [x54]
  have e92 : x92 (pu .u8 K) = .ro 5 false false (pu .u8 (JS K 92)) := by simp [x92]
  have hS : ∀ l : List Int, List.take 32 (pu .u8 (Jt l)) = pu .u8 (Jt l) := fun l => List.take_of_length_le (by simp [JX])
  cases pz with
  | true =>
    have := hz rfl; subst this
    have et : t32 [x54 (pu .u8 K)] = .ro 5 false false (pu .u8 (Jt (JS K 54))) := by simp [t32, e54, PV.els, hS]
    unfold Vw
    rw [cond_true, Jb hk, Jb (by simp [e54, PV.els, hK]), Jb hk, et, e92, Jb (by simp [PV.els, hK, QE, JX])]
    simp [PV.els, YP]
  | false =>
    have et : t32 (x54 (pu .u8 K) :: ([] ++ parts)) = .ro 5 false false (pu .u8 (Jt (JS K 54 ++ Je (Jk parts)))) := by
      rw [List.nil_append, t32, e54, Zi, hS]
      simp only [PV.els]
      rw [YP, Qf]
    unfold Vw
    have hp : (pu IntKind.u8 K).length = 64 := by simp [hK]
    rw [cond_false, Jb (by simp [Jj]; omega), Jb hk, Jb (by simp; omega), Jb, Jb hk, et, e92, Jb (by simp [PV.els, hK, QE, JX])]
    · simp [PV.els, YP]
    · rw [e54]
      simp only [List.nil_append, Zi, PV.els, h1, QE, JK, h3, List.length_cons, List.length_append, JF, Jeu, hK, Bool.true_and, Bool.and_true, Bool.and_eq_true, decide_eq_true_eq]
      omega
noncomputable def Jf2 : List PV → List Ent → (Res → Option Res) → Option Res
  | [.ro 5 kz kf key, .ro 29 pz pf parts], [], k =>
    bif (Jf .u8 key && decide (key.length ≤ 1000000000)) && ((parts.all (PV.isRo 5) && decide (parts.length ≤ 1000000)) && (Jf .u8 (Jk parts) && decide ((Jk parts).length ≤ 1000000000))) && (!pz || parts.isEmpty) then
      k ⟨.ar 37 (pu .u8 (Q1 (Je key) (Je (Jk parts)))), [], []⟩ else none
  | _, _, _ => none
noncomputable def JjT : Sig := { own := [], run := Jf2 }
theorem Jqx (kz kf : Bool) (key : List PV) (pz pf : Bool) (parts : List PV) (k : Res → Option Res) (a1 : Jf .u8 key = true) (a2 : key.length ≤ 1000000000) (h1 : parts.all (PV.isRo 5) = true) (h2 : parts.length ≤ 1000000) (h3 : Jf .u8 (Jk parts) = true) (h4 : (Jk parts).length ≤ 1000000000) (hz : pz = true → parts = []) :
    g80 0 kz kf key pz pf parts k = k ⟨.ar 37 (pu .u8 (Q1 (Je key) (Je (Jk parts)))), [], []⟩ := by
  rw [JjS, G1, Jew]
  have hf : Jk [.ro 5 kz kf key] = key := by simp [PV.els]
  have hi := Qa a1
  by_cases hc : key.length > 64
  · rw [Jb (by simp [zi]; omega), hf, Jb (by simp [a1]; omega), List.take_of_length_le (by simp [JX]), JcU _ (by rw [JX]; omega),
      JaN _ (by rw [← W3 (Je key), Vv, if_pos (by simpa using hc)]) pz parts hz h1 h2 h3 h4, Vv, if_pos (by simpa using hc)]
  · have hl : (Je key).length ≤ 64 := by simp; omega
    rw [JL (by simp [zi]; omega), hi, JcU _ hl, Qf, JaN _ (by rw [← W3 (Je key), Vv, if_neg (by omega)]) pz parts hz h1 h2 h3 h4, Vv, if_neg (by omega)]
theorem Jhn : Ji tau Try.prog 80 JjT := JxL.of fun xs es k res hr => by
  change Jf2 xs es k = some res at hr
  unfold Jf2 at hr
  split at hr
  · rename_i kz kf key pz pf parts
    obtain ⟨hc, hr⟩ := JI hr
    simp only [Bool.and_eq_true, decide_eq_true_eq, Bool.or_eq_true, Bool.not_eq_true', List.isEmpty_iff] at hc
    obtain ⟨⟨⟨a1, a2⟩, ⟨h1, h2⟩, h3, h4⟩, hz⟩ := hc
    exact (Jqx kz kf key pz pf parts k a1 a2 h1 h2 h3 h4 (fun hp => hz.resolve_left (by rw [hp]; decide))).trans hr
  · cases hr

-- FN wire.Parse
structure PA where
  (l : List PV) (b : List PV)
def kOk (l : List PV) : Bool := Jf .u8 l && decide (l.length ≤ 1000000000)
theorem Jmi {z0 f0 z1 f1 z2 f2 : Bool} {k0 k1 k2 : List PV} (h0 : kOk k0 = true) (h1 : kOk k1 = true) (h2 : kOk k2 = true) (d : Int) : kOk (Qs ⟨[.ro 5 z0 f0 k0, .ro 5 z1 f1 k1, .ro 5 z2 f2 k2], d⟩) = true := by
  rw [G0]
  show kOk (WL _ d).els = true
  unfold WL
  cases h : QM d 2 with
  | false => rfl
  | true =>
    simp only [QM, Bool.and_eq_true, decide_eq_true_eq] at h
    have : d = 0 ∨ d = 1 ∨ d = 2 := by omega
    rcases this with rfl | rfl | rfl
    · exact h0
    · exact h1
    · exact h2
theorem JxM : Try.prog.funcs[96]? = some Try.f96 := by kernel_rfl
theorem JxN : Try.f96.body = some (Try.f96.body.get!) := by kernel_rfl
theorem Juh : Enters Try.prog 96 := enters_of JxM (by kernel_rfl) JxN
theorem JxO : Try.prog.funcs[98]? = some Try.f98 := by kernel_rfl
theorem JxP : Try.f98.body = some (Try.f98.body.get!) := by kernel_rfl
theorem Jqy : Enters Try.prog 98 := enters_of JxO (by kernel_rfl) JxP
noncomputable def Jos : Fns := F0
theorem JjU : Jz tau Try.prog Jos := JH
def JcV : An := (.seq .leaf (.seq (.seq .leaf (.cond (.seq .leaf .leaf) .leaf)) (.seq .leaf .leaf)))
noncomputable def Jot (f : Nat) (s_z : Bool) (s_f : Bool) (s : List PV) (k : Res → Option Res) : Option Res := bif s_z then k (Res.mk (.ro 5 true true []) [] []) else bif Jj (0 + s.length) 1 && true then k (Res.mk (.ow 5 16 [] 0 (0 + s.length) none) [] [.vec false 5 false s]) else none
theorem Jui (f : Nat) (s_z : Bool) (s_f : Bool) (s : List PV) (k : Res → Option Res) : JR tau Jos Try.f131 (Try.f131.body.get!) JcV [] 0 [.ro 5 s_z s_f s] [] k = Jot f s_z s_f s k := by kernel_rfl
theorem Jqz (f : Nat) : Jg (Try.f131.body.get!) JcV = [] := by kernel_rfl
theorem JqA (f : Nat) : ∀ q ∈ Jg (Try.f131.body.get!) JcV, q.Ok tau Try.prog 0 := by
  rw [Jqz f]; intro q hq; cases hq
theorem JjV : Try.prog.funcs[131]? = some Try.f131 := by kernel_rfl
theorem JjW : Try.f131.body = some (Try.f131.body.get!) := by kernel_rfl
theorem JjX : Enters Try.prog 131 := enters_of JjV (by kernel_rfl) JjW
noncomputable def JcW : List PV → List Ent → (Res → Option Res) → Option Res
  | [.ro 5 s_z s_f s], [], k => Jot 0 s_z s_f s k
  | _, _, _ => none
noncomputable def JjY : Sig := { own := [], run := JcW }
theorem JjZ : Ji tau Try.prog 131 JjY := J3 Jr JjU Js JjV JjW JcV [] 0 [] JcW (JqA 0) fun xs es k res hr => by
  unfold JcW at hr
  split at hr
  · exact ⟨rfl, 0, (Jui 0 _ _ _  _).trans hr⟩
  · cases hr
noncomputable def F97 : Fns := JG 131 JjY (F0)
theorem JqB : Jz tau Try.prog F97 := (JH).add JjZ JjX
def JqC : Nm := [(0, .any), (1, .any), (5, .own), (6, .any)]
def Juj : An := (.seq .leaf (.seq .leaf (.seq .leaf (.seq .leaf (.seq (.seq .leaf (.seq .leaf (.cond .leaf .leaf))) (.seq .leaf .leaf))))))
def Jmj : An := (.seq .leaf (.scope JqC Juj))
noncomputable def g97 (f : Nat) (b_z : Bool) (b_f : Bool) (b : List PV) (n : Int) (k : Res → Option Res) : Option Res := bif b_z then k (Res.mk (.ro 5 false false [.sc (.int .u8 (IntKind.u8.wrap (Jx IntKind.u64 (IntKind.u64.wrap n) (IntKind.i64.wrap (8 * 0))))), .sc (.int .u8 (IntKind.u8.wrap (Jx IntKind.u64 (IntKind.u64.wrap n) (IntKind.i64.wrap (8 * IntKind.i64.wrap (0 + 1)))))), .sc (.int .u8 (IntKind.u8.wrap (Jx IntKind.u64 (IntKind.u64.wrap n) (IntKind.i64.wrap (8 * IntKind.i64.wrap (IntKind.i64.wrap (0 + 1) + 1)))))), .sc (.int .u8 (IntKind.u8.wrap (Jx IntKind.u64 (IntKind.u64.wrap n) (IntKind.i64.wrap (8 * IntKind.i64.wrap (IntKind.i64.wrap (IntKind.i64.wrap (0 + 1) + 1) + 1)))))), .sc (.int .u8 (IntKind.u8.wrap (Jx IntKind.u64 (IntKind.u64.wrap n) (IntKind.i64.wrap (8 * IntKind.i64.wrap (IntKind.i64.wrap (IntKind.i64.wrap (IntKind.i64.wrap (0 + 1) + 1) + 1) + 1)))))), .sc (.int .u8 (IntKind.u8.wrap (Jx IntKind.u64 (IntKind.u64.wrap n) (IntKind.i64.wrap (8 * IntKind.i64.wrap (IntKind.i64.wrap (IntKind.i64.wrap (IntKind.i64.wrap (IntKind.i64.wrap (0 + 1) + 1) + 1) + 1) + 1)))))), .sc (.int .u8 (IntKind.u8.wrap (Jx IntKind.u64 (IntKind.u64.wrap n) (IntKind.i64.wrap (8 * IntKind.i64.wrap (IntKind.i64.wrap (IntKind.i64.wrap (IntKind.i64.wrap (IntKind.i64.wrap (IntKind.i64.wrap (0 + 1) + 1) + 1) + 1) + 1) + 1)))))), .sc (.int .u8 (IntKind.u8.wrap (Jx IntKind.u64 (IntKind.u64.wrap n) (IntKind.i64.wrap (8 * IntKind.i64.wrap (IntKind.i64.wrap (IntKind.i64.wrap (IntKind.i64.wrap (IntKind.i64.wrap (IntKind.i64.wrap (IntKind.i64.wrap (0 + 1) + 1) + 1) + 1) + 1) + 1) + 1))))))]) [] []) else bif Jj (0 + b.length) 1 && true then bif Jj (0 + b.length + 1) 1 && true then bif Jj (0 + b.length + 1 + 1) 1 && true then bif Jj (0 + b.length + 1 + 1 + 1) 1 && true then bif Jj (0 + b.length + 1 + 1 + 1 + 1) 1 && true then bif Jj (0 + b.length + 1 + 1 + 1 + 1 + 1) 1 && true then bif Jj (0 + b.length + 1 + 1 + 1 + 1 + 1 + 1) 1 && true then bif Jj (0 + b.length + 1 + 1 + 1 + 1 + 1 + 1 + 1) 1 && true then bif Jj (0 + b.length + 1 + 1 + 1 + 1 + 1 + 1 + 1 + 1) 1 && true then bif Jj (0 + (List.take (0 + b.length + 1 + 1 + 1 + 1 + 1 + 1 + 1 + 1) (List.take (0 + b.length + 1 + 1 + 1 + 1 + 1 + 1 + 1) (List.take (0 + b.length + 1 + 1 + 1 + 1 + 1 + 1) (List.take (0 + b.length + 1 + 1 + 1 + 1 + 1) (List.take (0 + b.length + 1 + 1 + 1 + 1) (List.take (0 + b.length + 1 + 1 + 1) (List.take (0 + b.length + 1 + 1) (List.take (0 + b.length + 1) (List.take (0 + b.length) b ++ [.sc (.int .u8 (IntKind.u8.wrap (Jx IntKind.u64 (IntKind.u64.wrap n) (IntKind.i64.wrap (8 * 0)))))]) ++ [.sc (.int .u8 (IntKind.u8.wrap (Jx IntKind.u64 (IntKind.u64.wrap n) (IntKind.i64.wrap (8 * IntKind.i64.wrap (0 + 1))))))]) ++ [.sc (.int .u8 (IntKind.u8.wrap (Jx IntKind.u64 (IntKind.u64.wrap n) (IntKind.i64.wrap (8 * IntKind.i64.wrap (IntKind.i64.wrap (0 + 1) + 1))))))]) ++ [.sc (.int .u8 (IntKind.u8.wrap (Jx IntKind.u64 (IntKind.u64.wrap n) (IntKind.i64.wrap (8 * IntKind.i64.wrap (IntKind.i64.wrap (IntKind.i64.wrap (0 + 1) + 1) + 1))))))]) ++ [.sc (.int .u8 (IntKind.u8.wrap (Jx IntKind.u64 (IntKind.u64.wrap n) (IntKind.i64.wrap (8 * IntKind.i64.wrap (IntKind.i64.wrap (IntKind.i64.wrap (IntKind.i64.wrap (0 + 1) + 1) + 1) + 1))))))]) ++ [.sc (.int .u8 (IntKind.u8.wrap (Jx IntKind.u64 (IntKind.u64.wrap n) (IntKind.i64.wrap (8 * IntKind.i64.wrap (IntKind.i64.wrap (IntKind.i64.wrap (IntKind.i64.wrap (IntKind.i64.wrap (0 + 1) + 1) + 1) + 1) + 1))))))]) ++ [.sc (.int .u8 (IntKind.u8.wrap (Jx IntKind.u64 (IntKind.u64.wrap n) (IntKind.i64.wrap (8 * IntKind.i64.wrap (IntKind.i64.wrap (IntKind.i64.wrap (IntKind.i64.wrap (IntKind.i64.wrap (IntKind.i64.wrap (0 + 1) + 1) + 1) + 1) + 1) + 1))))))]) ++ [.sc (.int .u8 (IntKind.u8.wrap (Jx IntKind.u64 (IntKind.u64.wrap n) (IntKind.i64.wrap (8 * IntKind.i64.wrap (IntKind.i64.wrap (IntKind.i64.wrap (IntKind.i64.wrap (IntKind.i64.wrap (IntKind.i64.wrap (IntKind.i64.wrap (0 + 1) + 1) + 1) + 1) + 1) + 1) + 1))))))])).length) 1 && true then k (Res.mk (.ro 5 false false (List.take (0 + (List.take (0 + b.length + 1 + 1 + 1 + 1 + 1 + 1 + 1 + 1) (List.take (0 + b.length + 1 + 1 + 1 + 1 + 1 + 1 + 1) (List.take (0 + b.length + 1 + 1 + 1 + 1 + 1 + 1) (List.take (0 + b.length + 1 + 1 + 1 + 1 + 1) (List.take (0 + b.length + 1 + 1 + 1 + 1) (List.take (0 + b.length + 1 + 1 + 1) (List.take (0 + b.length + 1 + 1) (List.take (0 + b.length + 1) (List.take (0 + b.length) b ++ [.sc (.int .u8 (IntKind.u8.wrap (Jx IntKind.u64 (IntKind.u64.wrap n) (IntKind.i64.wrap (8 * 0)))))]) ++ [.sc (.int .u8 (IntKind.u8.wrap (Jx IntKind.u64 (IntKind.u64.wrap n) (IntKind.i64.wrap (8 * IntKind.i64.wrap (0 + 1))))))]) ++ [.sc (.int .u8 (IntKind.u8.wrap (Jx IntKind.u64 (IntKind.u64.wrap n) (IntKind.i64.wrap (8 * IntKind.i64.wrap (IntKind.i64.wrap (0 + 1) + 1))))))]) ++ [.sc (.int .u8 (IntKind.u8.wrap (Jx IntKind.u64 (IntKind.u64.wrap n) (IntKind.i64.wrap (8 * IntKind.i64.wrap (IntKind.i64.wrap (IntKind.i64.wrap (0 + 1) + 1) + 1))))))]) ++ [.sc (.int .u8 (IntKind.u8.wrap (Jx IntKind.u64 (IntKind.u64.wrap n) (IntKind.i64.wrap (8 * IntKind.i64.wrap (IntKind.i64.wrap (IntKind.i64.wrap (IntKind.i64.wrap (0 + 1) + 1) + 1) + 1))))))]) ++ [.sc (.int .u8 (IntKind.u8.wrap (Jx IntKind.u64 (IntKind.u64.wrap n) (IntKind.i64.wrap (8 * IntKind.i64.wrap (IntKind.i64.wrap (IntKind.i64.wrap (IntKind.i64.wrap (IntKind.i64.wrap (0 + 1) + 1) + 1) + 1) + 1))))))]) ++ [.sc (.int .u8 (IntKind.u8.wrap (Jx IntKind.u64 (IntKind.u64.wrap n) (IntKind.i64.wrap (8 * IntKind.i64.wrap (IntKind.i64.wrap (IntKind.i64.wrap (IntKind.i64.wrap (IntKind.i64.wrap (IntKind.i64.wrap (0 + 1) + 1) + 1) + 1) + 1) + 1))))))]) ++ [.sc (.int .u8 (IntKind.u8.wrap (Jx IntKind.u64 (IntKind.u64.wrap n) (IntKind.i64.wrap (8 * IntKind.i64.wrap (IntKind.i64.wrap (IntKind.i64.wrap (IntKind.i64.wrap (IntKind.i64.wrap (IntKind.i64.wrap (IntKind.i64.wrap (0 + 1) + 1) + 1) + 1) + 1) + 1) + 1))))))])).length) (List.take (0 + b.length + 1 + 1 + 1 + 1 + 1 + 1 + 1 + 1) (List.take (0 + b.length + 1 + 1 + 1 + 1 + 1 + 1 + 1) (List.take (0 + b.length + 1 + 1 + 1 + 1 + 1 + 1) (List.take (0 + b.length + 1 + 1 + 1 + 1 + 1) (List.take (0 + b.length + 1 + 1 + 1 + 1) (List.take (0 + b.length + 1 + 1 + 1) (List.take (0 + b.length + 1 + 1) (List.take (0 + b.length + 1) (List.take (0 + b.length) b ++ [.sc (.int .u8 (IntKind.u8.wrap (Jx IntKind.u64 (IntKind.u64.wrap n) (IntKind.i64.wrap (8 * 0)))))]) ++ [.sc (.int .u8 (IntKind.u8.wrap (Jx IntKind.u64 (IntKind.u64.wrap n) (IntKind.i64.wrap (8 * IntKind.i64.wrap (0 + 1))))))]) ++ [.sc (.int .u8 (IntKind.u8.wrap (Jx IntKind.u64 (IntKind.u64.wrap n) (IntKind.i64.wrap (8 * IntKind.i64.wrap (IntKind.i64.wrap (0 + 1) + 1))))))]) ++ [.sc (.int .u8 (IntKind.u8.wrap (Jx IntKind.u64 (IntKind.u64.wrap n) (IntKind.i64.wrap (8 * IntKind.i64.wrap (IntKind.i64.wrap (IntKind.i64.wrap (0 + 1) + 1) + 1))))))]) ++ [.sc (.int .u8 (IntKind.u8.wrap (Jx IntKind.u64 (IntKind.u64.wrap n) (IntKind.i64.wrap (8 * IntKind.i64.wrap (IntKind.i64.wrap (IntKind.i64.wrap (IntKind.i64.wrap (0 + 1) + 1) + 1) + 1))))))]) ++ [.sc (.int .u8 (IntKind.u8.wrap (Jx IntKind.u64 (IntKind.u64.wrap n) (IntKind.i64.wrap (8 * IntKind.i64.wrap (IntKind.i64.wrap (IntKind.i64.wrap (IntKind.i64.wrap (IntKind.i64.wrap (0 + 1) + 1) + 1) + 1) + 1))))))]) ++ [.sc (.int .u8 (IntKind.u8.wrap (Jx IntKind.u64 (IntKind.u64.wrap n) (IntKind.i64.wrap (8 * IntKind.i64.wrap (IntKind.i64.wrap (IntKind.i64.wrap (IntKind.i64.wrap (IntKind.i64.wrap (IntKind.i64.wrap (0 + 1) + 1) + 1) + 1) + 1) + 1))))))]) ++ [.sc (.int .u8 (IntKind.u8.wrap (Jx IntKind.u64 (IntKind.u64.wrap n) (IntKind.i64.wrap (8 * IntKind.i64.wrap (IntKind.i64.wrap (IntKind.i64.wrap (IntKind.i64.wrap (IntKind.i64.wrap (IntKind.i64.wrap (IntKind.i64.wrap (0 + 1) + 1) + 1) + 1) + 1) + 1) + 1))))))])))) [] []) else none else none else none else none else none else none else none else none else none else none
theorem e97 (f : Nat) (b_z : Bool) (b_f : Bool) (b : List PV) (n : Int) (k : Res → Option Res) : JR tau F97 Try.f97 (Try.f97.body.get!) Jmj [.ro] 12 [.ro 5 b_z b_f b, .sc (.int .i64 n)] [] k = g97 f b_z b_f b n k := by kernel_rfl
theorem JxQ (f : Nat) : Jg (Try.f97.body.get!) Jmj = [] := by kernel_rfl
theorem JxR (f : Nat) : ∀ q ∈ Jg (Try.f97.body.get!) Jmj, q.Ok tau Try.prog 0 := by
  rw [JxQ f]; intro q hq; cases hq
theorem Juk : Try.prog.funcs[97]? = some Try.f97 := by kernel_rfl
theorem Jul : Try.f97.body = some (Try.f97.body.get!) := by kernel_rfl
theorem JqD : Enters Try.prog 97 := enters_of Juk (by kernel_rfl) Jul
noncomputable def Jum : Fns := F0
theorem Jmk : Jz tau Try.prog Jum := JH
def Jho : An := (.seq .leaf (.seq .leaf .leaf))
noncomputable def JxS (f : Nat) (n : Int) (k : Res → Option Res) : Option Res := k (Res.mk (.ow 5 16 [] 0 1 none) [] [.vec false 5 false [.sc (.int .u8 (IntKind.u8.wrap n))]])
theorem JxT (f : Nat) (n : Int) (k : Res → Option Res) : JR tau Jum Try.f110 (Try.f110.body.get!) Jho [] 0 [.ro 5 true true [], .sc (.int .i64 n)] [] k = JxS f n k := by kernel_rfl
theorem Jun (f : Nat) : Jg (Try.f110.body.get!) Jho = [] := by kernel_rfl
theorem Juo (f : Nat) : ∀ q ∈ Jg (Try.f110.body.get!) Jho, q.Ok tau Try.prog 0 := by
  rw [Jun f]; intro q hq; cases hq
theorem Jou : Try.prog.funcs[110]? = some Try.f110 := by kernel_rfl
theorem Jov : Try.f110.body = some (Try.f110.body.get!) := by kernel_rfl
theorem Jup : Enters Try.prog 110 := enters_of Jou (by kernel_rfl) Jov
noncomputable def Jow : Fns := F0
theorem Jj0 : Jz tau Try.prog Jow := JH
def JcX : An := (.seq .leaf (.seq .leaf .leaf))
noncomputable def Jj1 (f : Nat) (nl : Bool) (l : List PV) (m : Nat) (n : Int) (k : Res → Option Res) : Option Res := bif Jj (m + 1) 1 && true then k (Res.mk (.ow 5 16 [] 0 (m + 1) none) [.dead] [.vec false 5 (nl && false) (List.take m l ++ [.sc (.int .u8 (IntKind.u8.wrap n))])]) else none
theorem Juq (f : Nat) (nl : Bool) (l : List PV) (m : Nat) (n : Int) (k : Res → Option Res) : JR tau Jow Try.f110 (Try.f110.body.get!) JcX [] 0 [.ow 5 0 [] 0 m none, .sc (.int .i64 n)] [.vec false 5 nl l] k = Jj1 f nl l m n k := by kernel_rfl
theorem JqE (f : Nat) : Jg (Try.f110.body.get!) JcX = [] := by kernel_rfl
theorem JqF (f : Nat) : ∀ q ∈ Jg (Try.f110.body.get!) JcX, q.Ok tau Try.prog 1 := by
  rw [JqE f]; intro q hq; cases hq
theorem JqG : Try.prog.funcs[110]? = some Try.f110 := by kernel_rfl
theorem JqH : Try.f110.body = some (Try.f110.body.get!) := by kernel_rfl
noncomputable def Jur : Fns := F0
theorem Jml : Jz tau Try.prog Jur := JH
def Jmm : Nm := [(0, .own), (1, .any), (5, .any)]
def JqI : An := (.seq (.seq .leaf (.cond .leaf .leaf)) (.seq (.block none .leaf) .leaf))
def Jhp : An := (.seq .leaf (.seq (.seq .leaf (.block none (.loop Jmm JqI))) (.seq .leaf .leaf)))
noncomputable def Jus (f : Nat) (n : Int) (k : Res → Option Res) : Option Res := k (Res.mk (.ow 5 16 [] 0 8 none) [] [.vec false 5 false [.sc (.int .u8 (IntKind.u8.wrap (Jx IntKind.u64 (IntKind.u64.wrap n) (IntKind.u64.wrap (8 * IntKind.u64.wrap 0))))), .sc (.int .u8 (IntKind.u8.wrap (Jx IntKind.u64 (IntKind.u64.wrap n) (IntKind.u64.wrap (8 * IntKind.u64.wrap (IntKind.i64.wrap (0 + 1))))))), .sc (.int .u8 (IntKind.u8.wrap (Jx IntKind.u64 (IntKind.u64.wrap n) (IntKind.u64.wrap (8 * IntKind.u64.wrap (IntKind.i64.wrap (IntKind.i64.wrap (0 + 1) + 1))))))), .sc (.int .u8 (IntKind.u8.wrap (Jx IntKind.u64 (IntKind.u64.wrap n) (IntKind.u64.wrap (8 * IntKind.u64.wrap (IntKind.i64.wrap (IntKind.i64.wrap (IntKind.i64.wrap (0 + 1) + 1) + 1))))))), .sc (.int .u8 (IntKind.u8.wrap (Jx IntKind.u64 (IntKind.u64.wrap n) (IntKind.u64.wrap (8 * IntKind.u64.wrap (IntKind.i64.wrap (IntKind.i64.wrap (IntKind.i64.wrap (IntKind.i64.wrap (0 + 1) + 1) + 1) + 1))))))), .sc (.int .u8 (IntKind.u8.wrap (Jx IntKind.u64 (IntKind.u64.wrap n) (IntKind.u64.wrap (8 * IntKind.u64.wrap (IntKind.i64.wrap (IntKind.i64.wrap (IntKind.i64.wrap (IntKind.i64.wrap (IntKind.i64.wrap (0 + 1) + 1) + 1) + 1) + 1))))))), .sc (.int .u8 (IntKind.u8.wrap (Jx IntKind.u64 (IntKind.u64.wrap n) (IntKind.u64.wrap (8 * IntKind.u64.wrap (IntKind.i64.wrap (IntKind.i64.wrap (IntKind.i64.wrap (IntKind.i64.wrap (IntKind.i64.wrap (IntKind.i64.wrap (0 + 1) + 1) + 1) + 1) + 1) + 1))))))), .sc (.int .u8 (IntKind.u8.wrap (Jx IntKind.u64 (IntKind.u64.wrap n) (IntKind.u64.wrap (8 * IntKind.u64.wrap (IntKind.i64.wrap (IntKind.i64.wrap (IntKind.i64.wrap (IntKind.i64.wrap (IntKind.i64.wrap (IntKind.i64.wrap (IntKind.i64.wrap (0 + 1) + 1) + 1) + 1) + 1) + 1) + 1)))))))]])
theorem JxU (f : Nat) (n : Int) (k : Res → Option Res) : JR tau Jur Try.f108 (Try.f108.body.get!) Jhp [] 12 [.ro 5 true true [], .sc (.int .i64 n)] [] k = Jus f n k := by kernel_rfl
theorem Jut (f : Nat) : Jg (Try.f108.body.get!) Jhp = [] := by kernel_rfl
theorem Juu (f : Nat) : ∀ q ∈ Jg (Try.f108.body.get!) Jhp, q.Ok tau Try.prog 0 := by
  rw [Jut f]; intro q hq; cases hq
theorem Jox : Try.prog.funcs[108]? = some Try.f108 := by kernel_rfl
theorem Joy : Try.f108.body = some (Try.f108.body.get!) := by kernel_rfl
theorem Joz : Enters Try.prog 108 := enters_of Jox (by kernel_rfl) Joy
noncomputable def JoA : Fns := F0
theorem Jj2 : Jz tau Try.prog JoA := JH
def Jj3 : Nm := [(0, .own), (1, .any), (5, .any)]
def Jmn : An := (.seq (.seq .leaf (.cond .leaf .leaf)) (.seq (.block none .leaf) .leaf))
def JcY : An := (.seq .leaf (.seq (.seq .leaf (.block none (.loop Jj3 Jmn))) (.seq .leaf .leaf)))
noncomputable def Jj4 (f : Nat) (nl : Bool) (l : List PV) (m : Nat) (n : Int) (k : Res → Option Res) : Option Res := bif Jj (m + 1) 1 && true then bif Jj (m + 1 + 1) 1 && true then bif Jj (m + 1 + 1 + 1) 1 && true then bif Jj (m + 1 + 1 + 1 + 1) 1 && true then bif Jj (m + 1 + 1 + 1 + 1 + 1) 1 && true then bif Jj (m + 1 + 1 + 1 + 1 + 1 + 1) 1 && true then bif Jj (m + 1 + 1 + 1 + 1 + 1 + 1 + 1) 1 && true then bif Jj (m + 1 + 1 + 1 + 1 + 1 + 1 + 1 + 1) 1 && true then k (Res.mk (.ow 5 16 [] 0 (m + 1 + 1 + 1 + 1 + 1 + 1 + 1 + 1) none) [.dead] [.vec false 5 (nl && false && false && false && false && false && false && false && false) (List.take (m + 1 + 1 + 1 + 1 + 1 + 1 + 1) (List.take (m + 1 + 1 + 1 + 1 + 1 + 1) (List.take (m + 1 + 1 + 1 + 1 + 1) (List.take (m + 1 + 1 + 1 + 1) (List.take (m + 1 + 1 + 1) (List.take (m + 1 + 1) (List.take (m + 1) (List.take m l ++ [.sc (.int .u8 (IntKind.u8.wrap (Jx IntKind.u64 (IntKind.u64.wrap n) (IntKind.u64.wrap (8 * IntKind.u64.wrap 0)))))]) ++ [.sc (.int .u8 (IntKind.u8.wrap (Jx IntKind.u64 (IntKind.u64.wrap n) (IntKind.u64.wrap (8 * IntKind.u64.wrap (IntKind.i64.wrap (0 + 1)))))))]) ++ [.sc (.int .u8 (IntKind.u8.wrap (Jx IntKind.u64 (IntKind.u64.wrap n) (IntKind.u64.wrap (8 * IntKind.u64.wrap (IntKind.i64.wrap (IntKind.i64.wrap (0 + 1) + 1)))))))]) ++ [.sc (.int .u8 (IntKind.u8.wrap (Jx IntKind.u64 (IntKind.u64.wrap n) (IntKind.u64.wrap (8 * IntKind.u64.wrap (IntKind.i64.wrap (IntKind.i64.wrap (IntKind.i64.wrap (0 + 1) + 1) + 1)))))))]) ++ [.sc (.int .u8 (IntKind.u8.wrap (Jx IntKind.u64 (IntKind.u64.wrap n) (IntKind.u64.wrap (8 * IntKind.u64.wrap (IntKind.i64.wrap (IntKind.i64.wrap (IntKind.i64.wrap (IntKind.i64.wrap (0 + 1) + 1) + 1) + 1)))))))]) ++ [.sc (.int .u8 (IntKind.u8.wrap (Jx IntKind.u64 (IntKind.u64.wrap n) (IntKind.u64.wrap (8 * IntKind.u64.wrap (IntKind.i64.wrap (IntKind.i64.wrap (IntKind.i64.wrap (IntKind.i64.wrap (IntKind.i64.wrap (0 + 1) + 1) + 1) + 1) + 1)))))))]) ++ [.sc (.int .u8 (IntKind.u8.wrap (Jx IntKind.u64 (IntKind.u64.wrap n) (IntKind.u64.wrap (8 * IntKind.u64.wrap (IntKind.i64.wrap (IntKind.i64.wrap (IntKind.i64.wrap (IntKind.i64.wrap (IntKind.i64.wrap (IntKind.i64.wrap (0 + 1) + 1) + 1) + 1) + 1) + 1)))))))]) ++ [.sc (.int .u8 (IntKind.u8.wrap (Jx IntKind.u64 (IntKind.u64.wrap n) (IntKind.u64.wrap (8 * IntKind.u64.wrap (IntKind.i64.wrap (IntKind.i64.wrap (IntKind.i64.wrap (IntKind.i64.wrap (IntKind.i64.wrap (IntKind.i64.wrap (IntKind.i64.wrap (0 + 1) + 1) + 1) + 1) + 1) + 1) + 1)))))))])]) else none else none else none else none else none else none else none else none
theorem Juv (f : Nat) (nl : Bool) (l : List PV) (m : Nat) (n : Int) (k : Res → Option Res) : JR tau JoA Try.f108 (Try.f108.body.get!) JcY [] 12 [.ow 5 0 [] 0 m none, .sc (.int .i64 n)] [.vec false 5 nl l] k = Jj4 f nl l m n k := by kernel_rfl
theorem JqJ (f : Nat) : Jg (Try.f108.body.get!) JcY = [] := by kernel_rfl
theorem JqK (f : Nat) : ∀ q ∈ Jg (Try.f108.body.get!) JcY, q.Ok tau Try.prog 1 := by
  rw [JqJ f]; intro q hq; cases hq
theorem JqL : Try.prog.funcs[108]? = some Try.f108 := by kernel_rfl
theorem JqM : Try.f108.body = some (Try.f108.body.get!) := by kernel_rfl
noncomputable def JoB : Fns := F0
theorem Jj5 : Jz tau Try.prog JoB := JH
def JcZ : An := (.seq .leaf (.seq (.seq .leaf (.cond .leaf .leaf)) (.seq .leaf .leaf)))
noncomputable def Jj6 (f : Nat) (nl : Bool) (l : List PV) (m : Nat) (s : ByteArray) (k : Res → Option Res) : Option Res := bif decide (zi s.size > 65535) then bif decide (65535 ≤ s.size) && true then bif Jj (m + 2) 1 && true then bif Jj (m + 2 + (Jn (s.extract 0 65535)).length) 1 && true then k (Res.mk (.ow 5 16 [] 0 (m + 2 + (Jn (s.extract 0 65535)).length) none) [.dead] [.vec false 5 (nl && false && (Jn (s.extract 0 65535)).isEmpty) (List.take (m + 2) (List.take m l ++ [.sc (.int .u8 (IntKind.u8.wrap (zi (s.extract 0 65535).size))), .sc (.int .u8 (IntKind.u8.wrap (Jx IntKind.i64 (zi (s.extract 0 65535).size) 8)))]) ++ Jn (s.extract 0 65535))]) else none else none else none else bif Jj (m + 2) 1 && true then bif Jj (m + 2 + (Jn s).length) 1 && true then k (Res.mk (.ow 5 16 [] 0 (m + 2 + (Jn s).length) none) [.dead] [.vec false 5 (nl && false && (Jn s).isEmpty) (List.take (m + 2) (List.take m l ++ [.sc (.int .u8 (IntKind.u8.wrap (zi s.size))), .sc (.int .u8 (IntKind.u8.wrap (Jx IntKind.i64 (zi s.size) 8)))]) ++ Jn s)]) else none else none
theorem Juw (f : Nat) (nl : Bool) (l : List PV) (m : Nat) (s : ByteArray) (k : Res → Option Res) : JR tau JoB Try.f109 (Try.f109.body.get!) JcZ [] 0 [.ow 5 0 [] 0 m none, .sc (.string s)] [.vec false 5 nl l] k = Jj6 f nl l m s k := by kernel_rfl
theorem JqN (f : Nat) : Jg (Try.f109.body.get!) JcZ = [] := by kernel_rfl
theorem JqO (f : Nat) : ∀ q ∈ Jg (Try.f109.body.get!) JcZ, q.Ok tau Try.prog 1 := by
  rw [JqN f]; intro q hq; cases hq
theorem Jj7 : Try.prog.funcs[109]? = some Try.f109 := by kernel_rfl
theorem Jj8 : Try.f109.body = some (Try.f109.body.get!) := by kernel_rfl
theorem JqP : Enters Try.prog 109 := enters_of Jj7 (by kernel_rfl) Jj8
-- FN code.Byte | code.Text | code.Int | ref1.Byte | ref1.Int | ref1.Text
def ib (n i : Int) : Int := IntKind.u8.wrap (Jx .u64 (IntKind.u64.wrap n) (8 * i))
def Jhq (n : Int) : List Int := [ib n 0, ib n 1, ib n 2, ib n 3, ib n 4, ib n 5, ib n 6, ib n 7]
noncomputable def J4 : Int → List Int := hid Jhq
theorem Wb (n : Int) : J4 n = Jhq n := by rw [J4, hid_eq]
@[simp] theorem W4 (n : Int) : (J4 n).length = 8 := by rw [Wb]; rfl
/-- a text's bytes -/
def Jmo (s : ByteArray) : List Int := s.data.toList.map fun b => (b.toNat : Int)
noncomputable def bsI : ByteArray → List Int := hid Jmo
theorem JaO (s : ByteArray) : bsI s = Jmo s := by rw [bsI, hid_eq]
theorem Q9 (s : ByteArray) : Jn s = pu .u8 (bsI s) := by rw [JaO]; simp [Jn, pu, Jmo]
@[simp] theorem ZO (s : ByteArray) : (bsI s).length = s.size := by rw [JaO]; simp [Jmo]
theorem JqQ (s : ByteArray) : ∀ x ∈ bsI s, 0 ≤ x ∧ x < 256 := by
  intro x hx
  rw [JaO] at hx
  obtain ⟨b, _, rfl⟩ := List.mem_map.1 hx
  have := b.toNat_lt
  omega
noncomputable def XO (s : ByteArray) : List Int := [IntKind.u8.wrap (zi s.size), IntKind.u8.wrap (Jx .i64 (zi s.size) 8)] ++ bsI s
noncomputable def Qg : ByteArray → List Int := hid XO
theorem Q2 (s : ByteArray) : Qg s = XO s := by rw [Qg, hid_eq]
@[simp] theorem Vx (s : ByteArray) : (Qg s).length = s.size + 2 := by rw [Q2]; simp [XO]
theorem Zj (x : Int) : 0 ≤ IntKind.u8.wrap x ∧ IntKind.u8.wrap x < 256 := by rw [WJ]; omega
theorem XP (n : Int) : ∀ x ∈ J4 n, 0 ≤ x ∧ x < 256 := by
  rw [Wb]; intro x hx
  simp only [Jhq, List.mem_cons, List.not_mem_nil, or_false] at hx
  rcases hx with h | h | h | h | h | h | h | h <;> (rw [h]; exact Zj _)
theorem Jex (s : ByteArray) : ∀ x ∈ Qg s, 0 ≤ x ∧ x < 256 := by
  rw [Q2]; intro x hx
  rcases List.mem_append.1 hx with hx | hx
  · simp only [List.mem_cons, List.not_mem_nil, or_false] at hx
    rcases hx with h | h <;> (rw [h]; exact Zj _)
  · exact JqQ s x hx
theorem Jmp (f : Bool) (b : List PV) (n : Int) (k : Res → Option Res) : g97 0 true f b n k = k ⟨.ro 5 false false (pu .u8 (J4 n)), [], []⟩ := by
  rw [Wb]; kernel_rfl
theorem Jux (f : Bool) (b : List PV) (hb : b.length ≤ 1000000000) (n : Int) (k : Res → Option Res) : g97 0 false f b n k = k ⟨.ro 5 false false (b ++ pu .u8 (J4 n)), [], []⟩ := by
  rw [Wb]
  unfold g97
  refine (JL rfl).trans ?_
  repeat (refine (Jb (by simp [Jj]; omega)).trans ?_)
  repeat rw [List.take_of_length_le (by simp <;> omega)]
  simp only [List.nil_append, List.append_assoc]
  rfl
noncomputable def Jc0 : List PV → List Ent → (Res → Option Res) → Option Res
  | [.ro 5 z f b, .sc (.int .i64 n)], [], k => bif slB z b then k ⟨.ro 5 false false (b ++ pu .u8 (J4 n)), [], []⟩ else none
  | _, _, _ => none
noncomputable def JxV : Sig := { own := [], run := Jc0 }
theorem Juy : Ji tau Try.prog 97 JxV := Ji.mk' fun xs es k res hl hr => by
  change Jc0 xs es k = some res at hr
  unfold Jc0 at hr
  split at hr
  · rename_i z f b n
    obtain ⟨hc, hr2⟩ := JI hr
    clear hr
    obtain ⟨h1, h2⟩ := QZ.1 hc
    have hg : g97 0 z f b n k = some res := by
      cases z with
      | true => obtain rfl := h1 rfl; rw [Jmp]; exact hr2
      | false => rw [Jux f b h2]; exact hr2
    exact Qo Jr JqB Js Juk Jul Jmj [.ro] 0 12 (JxR 0) hl rfl ((e97 0 z f b n k).trans hg)
  · cases hr
theorem Jey (s : ByteArray) : s.extract 0 s.size = s := by
  apply ByteArray.ext
  simp [ByteArray.data_extract]
noncomputable def Vy : List PV → List Ent → (Res → Option Res) → Option Res
  | [.ro 5 true true [], .sc (.int .i64 n)], [], k => k ⟨.ow 5 16 [] 0 1 none, [], [.vec false 5 false (pu .u8 [IntKind.u8.wrap n])]⟩
  | [.ow 5 0 [] 0 m none, .sc (.int .i64 n)], [.vec false 5 nl l], k => bif Nat.beq m l.length && Nat.ble l.length 1000000000 then k ⟨.ow 5 16 [] 0 (m + 1) none, [.dead], [.vec false 5 false (l ++ pu .u8 [IntKind.u8.wrap n])]⟩ else none
  | _, _, _ => none
noncomputable def Juz : Sig := { own := [true], run := Vy }
theorem JqR : Ji tau Try.prog 110 Juz := Ji.mk' fun xs es k res hl hr => by
  change Vy xs es k = some res at hr
  unfold Vy at hr
  split at hr
  · rename_i n
    exact Qo Jr Jmk Js Jou Jov Jho [] 0 0 (Juo 0) hl rfl ((JxT 0 n k).trans hr)
  · rename_i m n nl l
    obtain ⟨hc, hr⟩ := JI hr
    rw [Bool.and_eq_true, Nat.beq_eq, Nat.ble_eq] at hc
    obtain ⟨rfl, hc⟩ := hc
    have hg : Jj1 0 nl l l.length n k = some res := by
      unfold Jj1
      rw [Jb (by simp [Jj]; omega), List.take_length, Bool.and_false]
      exact hr
    exact Qo Jr Jj0 Js JqG JqH JcX [] 1 0 (JqF 0) hl rfl ((Juq 0 nl l l.length n k).trans hg)
  · cases hr
noncomputable def Vz : List PV → List Ent → (Res → Option Res) → Option Res
  | [.ro 5 true true [], .sc (.int .i64 n)], [], k => k ⟨.ow 5 16 [] 0 8 none, [], [.vec false 5 false (pu .u8 (J4 n))]⟩
  | [.ow 5 0 [] 0 m none, .sc (.int .i64 n)], [.vec false 5 nl l], k => bif Nat.beq m l.length && Nat.ble l.length 1000000000 then k ⟨.ow 5 16 [] 0 (m + 8) none, [.dead], [.vec false 5 false (l ++ pu .u8 (J4 n))]⟩ else none
  | _, _, _ => none
noncomputable def JuA : Sig := { own := [true], run := Vz }
theorem Jj9 (n : Int) (k : Res → Option Res) : Jus 0 n k = k ⟨.ow 5 16 [] 0 8 none, [], [.vec false 5 false (pu .u8 (J4 n))]⟩ := by
  rw [Wb]; kernel_rfl
theorem Jka (nl : Bool) (l : List PV) (hl : l.length ≤ 1000000000) (n : Int) (k : Res → Option Res) : Jj4 0 nl l l.length n k = k ⟨.ow 5 16 [] 0 (l.length + 8) none, [.dead], [.vec false 5 false (l ++ pu .u8 (J4 n))]⟩ := by
  rw [Wb]
  unfold Jj4
  repeat (refine (Jb (by simp [Jj]; omega)).trans ?_)
  repeat rw [List.take_of_length_le (by simp <;> omega)]
  simp only [Bool.and_false, List.append_assoc]
  rfl
theorem Jkb : Ji tau Try.prog 108 JuA := Ji.mk' fun xs es k res hl hr => by
  change Vz xs es k = some res at hr
  unfold Vz at hr
  split at hr
  · rename_i n
    exact Qo Jr Jml Js Jox Joy Jhp [] 0 12 (Juu 0) hl rfl ((JxU 0 n k).trans ((Jj9 n k).trans hr))
  · rename_i m n nl l
    obtain ⟨hc, hr⟩ := JI hr
    rw [Bool.and_eq_true, Nat.beq_eq, Nat.ble_eq] at hc
    obtain ⟨rfl, hc⟩ := hc
    exact Qo Jr Jj2 Js JqL JqM JcY [] 1 12 (JqK 0) hl rfl ((Juv 0 nl l l.length n k).trans ((Jka nl l hc n k).trans hr))
  · cases hr
noncomputable def VA : List PV → List Ent → (Res → Option Res) → Option Res
  | [.ow 5 0 [] 0 m none, .sc (.string s)], [.vec false 5 nl l], k => bif Nat.beq m l.length && Nat.ble l.length 1000000000 && Nat.ble s.size 65535 then k ⟨.ow 5 16 [] 0 (m + (s.size + 2)) none, [.dead], [.vec false 5 false (l ++ pu .u8 (Qg s))]⟩ else none
  | _, _, _ => none
noncomputable def JuB : Sig := { own := [true], run := VA }
theorem JqS : Ji tau Try.prog 109 JuB := Ji.mk' fun xs es k res hl hr => by
  change VA xs es k = some res at hr
  unfold VA at hr
  split at hr
  · rename_i m s nl l
    obtain ⟨hc, hr⟩ := JI hr
    rw [Bool.and_eq_true, Bool.and_eq_true, Nat.beq_eq, Nat.ble_eq, Nat.ble_eq] at hc
    obtain ⟨⟨rfl, hc⟩, hs⟩ := hc
    have hg : Jj6 0 nl l l.length s k = some res := by
      unfold Jj6
      have hob : (Jn s).length = s.size := by rw [Q9]; simp
      rw [JL (by simp only [zi, decide_eq_false_iff_not]; omega), Jb (by simp [Jj]; omega), Jb (by simp [Jj, hob]; omega), List.take_length, List.take_of_length_le (by simp), hob, Bool.and_false, Bool.false_and]
      rw [Q2, XO] at hr
      rw [Q9, show l.length + 2 + s.size = l.length + (s.size + 2) from by omega]
      simpa [pu] using hr
    exact Qo Jr Jj5 Js Jj7 Jj8 JcZ [] 1 0 (JqO 0) hl rfl ((Juw 0 nl l l.length s k).trans hg)
  · cases hr
theorem GG (n : Int) (i : Nat) (h : 8 * i < 64) : ib n i = (n % 18446744073709551616) / (2 ^ (8 * i)) % 256 := by
  unfold ib Jx
  rw [WJ, QU]
  have : min (8 * (i : Int)).toNat IntKind.u64.bits = 8 * i := by
    show min _ 64 = _
    omega
  rw [this, Int.fdiv_eq_ediv_of_nonneg _ (Int.pow_nonneg (by decide))]
theorem JiB (n : Int) : Xc (J4 n) = n % 18446744073709551616 := by
  rw [Wb]
  simp only [Jhq, Xc]
  have e0 : ib n 0 = n % 18446744073709551616 / 2 ^ (8 * 0) % 256 := GG n 0 (by decide)
  have e1 : ib n 1 = n % 18446744073709551616 / 2 ^ (8 * 1) % 256 := GG n 1 (by decide)
  have e2 : ib n 2 = n % 18446744073709551616 / 2 ^ (8 * 2) % 256 := GG n 2 (by decide)
  have e3 : ib n 3 = n % 18446744073709551616 / 2 ^ (8 * 3) % 256 := GG n 3 (by decide)
  have e4 : ib n 4 = n % 18446744073709551616 / 2 ^ (8 * 4) % 256 := GG n 4 (by decide)
  have e5 : ib n 5 = n % 18446744073709551616 / 2 ^ (8 * 5) % 256 := GG n 5 (by decide)
  have e6 : ib n 6 = n % 18446744073709551616 / 2 ^ (8 * 6) % 256 := GG n 6 (by decide)
  have e7 : ib n 7 = n % 18446744073709551616 / 2 ^ (8 * 7) % 256 := GG n 7 (by decide)
  simp only [Nat.reduceMul, Int.reducePow] at e0 e1 e2 e3 e4 e5 e6 e7
  omega
theorem Jbj (n : Int) : IntKind.i64.wrap (n % 18446744073709551616) = IntKind.i64.wrap n := by
  have h : n % 18446744073709551616 % 18446744073709551616 = n % 18446744073709551616 := Int.emod_emod_of_dvd n (Int.dvd_refl _)
  show (if _ then _ else _) = (if _ then _ else _)
  have e : ∀ x : Int, x % 2 ^ IntKind.i64.bits = x % 18446744073709551616 := fun x => rfl
  simp only [e, h]
def i64B (n : Int) : Bool := decide (-9223372036854775808 ≤ n) && decide (n < 9223372036854775808)
theorem Jc1 {n : Int} (h : i64B n = true) : IntKind.i64.wrap (n % 18446744073709551616) = n := by
  simp only [i64B, Bool.and_eq_true, decide_eq_true_eq] at h
  have e : IntKind.i64.wrap (n % 18446744073709551616) = IntKind.i64.wrap n := Jbj n
  rw [e]; exact wrap_i64 h.1 h.2
theorem Jkc (l : List Int) (r : List PV) {n : Nat} (h : l.length = n) : Qz n ⟨pu .u8 l ++ r, 0⟩ = pu .u8 l := by
  unfold Qz Yu
  have : Nat.ble n (pu .u8 l ++ r).length = true := (Nat.ble_eq ▸ (by simp; omega) : Nat.ble n (pu .u8 l ++ r).length = true)
  rw [this]
  show List.take n (pu .u8 l ++ r) = _
  rw [List.take_append_of_le_length (by simp; omega), List.take_of_length_le (by simp; omega)]
theorem VB (l : List Int) (r : List PV) {n : Nat} (h : l.length = n) : Qb n ⟨pu .u8 l ++ r, 0⟩ = ⟨r, 0⟩ := by
  unfold Qb Yu
  have : Nat.ble n (pu .u8 l ++ r).length = true := (Nat.ble_eq ▸ (by simp; omega) : Nat.ble n (pu .u8 l ++ r).length = true)
  rw [this]
  show RS.mk (List.drop n (pu .u8 l ++ r)) 0 = _
  rw [List.drop_append_of_le_length (by simp; omega), List.drop_of_length_le (by simp; omega), List.nil_append]
theorem Jc2 (l : List Int) (r : List PV) {n : Nat} (h : l.length = n) : Wh n ⟨pu .u8 l ++ r, 0⟩ = IntKind.i64.wrap (Xc l) := by
  unfold Wh; rw [Jkc l r h, Qf]
theorem XQ {n : Int} (h : i64B n = true) (r : List PV) : JA 8 ⟨pu .u8 (J4 n) ++ r, 0⟩ = n := by
  rw [WU, Jc2 _ _ (W4 n), JiB, Jc1 h]
theorem QF (n : Int) (r : List PV) : Ja 8 ⟨pu .u8 (J4 n) ++ r, 0⟩ = ⟨r, 0⟩ := by
  rw [WK, VB _ _ (W4 n)]
theorem JaP (n : Int) (r : List PV) : JA 1 ⟨pu .u8 [IntKind.u8.wrap n] ++ r, 0⟩ = IntKind.u8.wrap n := by
  rw [WU, Jc2 [IntKind.u8.wrap n] r (n := 1) rfl]
  have := Zj n
  simp only [Xc]
  rw [wrap_i64 (by omega) (by omega)]; omega
theorem Zk (n : Int) (r : List PV) : Ja 1 ⟨pu .u8 [IntKind.u8.wrap n] ++ r, 0⟩ = ⟨r, 0⟩ := by
  rw [WK, VB [IntKind.u8.wrap n] r (n := 1) rfl]
theorem Jmq (l : List PV) (h : byB l = true) : Jn (⟨(Jl l).toArray⟩ : ByteArray) = l := by
  simp only [Jn]
  show (Jl l).map _ = l
  induction l with
  | nil => rfl
  | cons p ps ih =>
    have h1 : (p.isInt .u8 && (decide (0 ≤ p.int) && decide (p.int < 256))) = true ∧ byB ps = true := by
      have : byB (p :: ps) = ((p.isInt .u8 && (decide (0 ≤ p.int) && decide (p.int < 256))) && byB ps) := rfl
      rw [this, Bool.and_eq_true] at h; exact h
    simp only [Jl, List.map_cons, ih h1.2]
    congr 1
    have h2 := h1.1
    simp only [Bool.and_eq_true, decide_eq_true_eq] at h2
    obtain ⟨h2, h3, h4⟩ := h2
    match p, h2 with
    | .sc (.int .u8 x), _ =>
      simp only [PV.int] at h3 h4 ⊢
      congr 2
      simp [UInt8.toNat_ofNat]
      omega
    all_goals skip
theorem Jhr {t : ByteArray} (h : t.size ≤ 65535) (r : List PV) : JQ ⟨pu .u8 (Qg t) ++ r, 0⟩ = t ∧ J2 ⟨pu .u8 (Qg t) ++ r, 0⟩ = ⟨r, 0⟩ := by
  have hn : ∀ r, Wh 2 ⟨pu .u8 [IntKind.u8.wrap (zi t.size), IntKind.u8.wrap (Jx .i64 (zi t.size) 8)] ++ r, 0⟩ = (t.size : Int) := by
    intro r
    rw [Jc2 [IntKind.u8.wrap (zi t.size), IntKind.u8.wrap (Jx .i64 (zi t.size) 8)] r (n := 2) rfl]
    simp only [Xc, Jx, WJ, zi]
    have : min (8 : Int).toNat IntKind.i64.bits = 8 := by decide
    rw [this, Int.fdiv_eq_ediv_of_nonneg _ (by decide), wrap_i64 (by omega) (by omega)]
    omega
  have hs : ∀ r, Qb 2 ⟨pu .u8 [IntKind.u8.wrap (zi t.size), IntKind.u8.wrap (Jx .i64 (zi t.size) 8)] ++ r, 0⟩ = ⟨r, 0⟩ := fun r => VB _ _ rfl
  have he : pu .u8 (Qg t) ++ r = pu .u8 [IntKind.u8.wrap (zi t.size), IntKind.u8.wrap (Jx .i64 (zi t.size) 8)] ++ (pu .u8 (bsI t) ++ r) := by
    rw [Q2, XO, JN, List.append_assoc]
  rw [GY, GX, he]
  unfold Jeb Jea
  rw [hn, hs, Int.toNat_natCast, Jkc _ _ (ZO t), VB _ _ (ZO t)]
  refine ⟨?_, rfl⟩
  rw [← Q9]
  apply ByteArray.ext
  apply Array.ext'
  show Jl (Jn t) = t.data.toList
  simp only [Jn]
  generalize t.data.toList = l
  induction l with
  | nil => rfl
  | cons x l ih =>
    simp only [List.map_cons, Jl, ih, PV.int]
    congr 1
    simp
theorem Jkd : ∀ (l : List Int) (r : List PV), (∀ x ∈ l, 0 ≤ x ∧ x < 256) → V7 l.length ⟨pu .u8 l ++ r, 0⟩ = ⟨r, 0⟩ ∧ V8 l.length ⟨pu .u8 l ++ r, 0⟩ = l
  | [], r, _ => ⟨rfl, rfl⟩
  | x :: l, r, h => by
      have h2 := Jkd l r fun y hy => h y (List.mem_cons_of_mem _ hy)
      have hx := h x List.mem_cons_self
      have e1 : Qb 1 ⟨pu .u8 (x :: l) ++ r, 0⟩ = ⟨pu .u8 l ++ r, 0⟩ := by
        rw [show pu .u8 (x :: l) ++ r = pu .u8 [x] ++ (pu .u8 l ++ r) from rfl, VB [x] _ (n := 1) rfl]
      have e2 : Wh 1 ⟨pu .u8 (x :: l) ++ r, 0⟩ = x := by
        rw [show pu .u8 (x :: l) ++ r = pu .u8 [x] ++ (pu .u8 l ++ r) from rfl, Jc2 [x] _ (n := 1) rfl]
        simp only [Xc]
        rw [wrap_i64 (by omega) (by omega)]; omega
      simp only [List.length_cons, V7, V8, e1, e2, h2.1, h2.2, true_and]
      rw [WJ]; congr 1; omega
structure MsgOk (ns : List Int) (ts : List ByteArray) (h : List Int) : Prop where
  len : ns.length = 12
  num : ∀ n, n < 12 → i64B (ns.getD n 0) = true
  cnt : ts.length ≤ 4
  txt : ∀ t ∈ ts, t.size ≤ 65535
  sum : h.length = 32
  sumB : ∀ x ∈ h, 0 ≤ x ∧ x < 256
theorem JxW {τ : Tab} {m : Nat} {a b : TypeId} {pvs : List PV} (h : TyL τ m [a, b] pvs) : ∃ p q, pvs = [p, q] ∧ Ty τ m a p ∧ Ty τ m b q := by
  match pvs, h with
  | [p, q], h => exact ⟨p, q, rfl, h.1, h.2.1⟩
theorem JxX {τ : Tab} {m : Nat} {a b c : TypeId} {pvs : List PV} (h : TyL τ m [a, b, c] pvs) : ∃ p q r, pvs = [p, q, r] ∧ Ty τ m a p ∧ Ty τ m b q ∧ Ty τ m c r := by
  match pvs, h with
  | [p, q, r], h => exact ⟨p, q, r, rfl, h.1, h.2.1, h.2.2.1⟩
-- FN law9.Keys | law16.Good | law16.Few
noncomputable def kb : Nat → List PV → List PV := hid fun i b => pu .u8 [107, 48 + i] ++ b.take 60
theorem Jke (i : Nat) (b : List PV) : kb i b = pu .u8 [107, 48 + i] ++ b.take 60 := by rw [kb, hid_eq]
theorem Jhs (i : Nat) {b : List PV} (h : Jf .u8 b = true) : kOk (kb i b) = true := by
  rw [Jke]; unfold kOk
  have h2 : Jf .u8 (b.take 60) = true := by
    rw [Qa h, WT]; simp
  rw [QE, h2, JK]
  simp; omega
noncomputable def Jf3 : List PV → List Ent → (Res → Option Res) → Option Res
  | [.ro 5 z f b], [], k => k ⟨.st 31 [.ro 5 false false (kb 0 b), .ro 5 false false (kb 1 b), .ro 5 false false (kb 2 b)], [], []⟩
  | _, _, _ => none
noncomputable def JqT : Sig := { own := [], run := Jf3 }
theorem JuC (n m : Nat) : (Qm (zi n) m).toNat = min n m := by unfold Qm; simp only [zi]; split <;> omega
theorem JoC : Ji tau Try.prog 21 JqT := Jw0.of fun xs es k res hr => by
  change Jf3 xs es k = some res at hr
  unfold Jf3 at hr
  split at hr
  · rename_i z f b
    show g21 0 z f b k = some res
    have hm : (Qm (zi b.length) 60).toNat = min b.length 60 := JuC b.length 60
    have ht : List.take (min b.length 60) b = b.take 60 := by rw [Nat.min_comm, List.take_eq_take_iff]; omega
    have hl : (b.take 60).length ≤ 60 := by simp; omega
    have e : ∀ x y : Int, List.take (2 + (b.take 60).length) (.sc (.int .u8 x) :: .sc (.int .u8 y) :: id (b.take 60)) = .sc (.int .u8 x) :: .sc (.int .u8 y) :: b.take 60 := fun x y => List.take_of_length_le (by simp; omega)
    have hk : ∀ i, kb i b = .sc (.int .u8 107) :: .sc (.int .u8 (48 + i)) :: b.take 60 := fun i => by rw [Jke]; simp
    unfold g21
    simp only [hm, ht, e]
    have hr4 : Jj (2 + (b.take 60).length) 1 = true := by simp only [Jj, Nat.mul_one, decide_eq_true_eq]; omega
    rw [Jb (by simp; unfold Qm; simp only [zi]; split <;> omega), hr4]
    simp only [hk] at hr
    exact hr
  · cases hr
def JqU : Nat → C13 → Int
  | 0, c => 1 + c.kd % 5
  | 1, c => c.fr % 3
  | 2, c => (c.fr % 3 + 1 + c.to % 2) % 3
  | 3, c => c.wh % 3
  | 4, c => c.wn % 100
  | 5, c => c.cd % 3
  | 6, c => c.cu % 8
  | 7, c => c.ve % 1073741824
  | 8, c => c.co % 1073741824
  | 9, c => c.ad % 3
  | 10, c => c.au % 8
  | 11, c => c.su % 1073741824
  | _, c => c.er % 256
noncomputable def Xr : Nat → C13 → Int := hid JqU
noncomputable abbrev Jy5 (c : C13) : C13 := ⟨Xr 0 c, Xr 1 c, Xr 2 c, Xr 3 c, Xr 4 c, Xr 5 c, Xr 6 c, Xr 7 c, Xr 8 c, Xr 9 c, Xr 10 c, Xr 11 c, Xr 12 c⟩
noncomputable def F72 : Fns := F0
theorem JqV : Jz tau Try.prog F72 := JH
def Jmr : An := (.seq .leaf (.seq .leaf .leaf))
noncomputable def g72 (f : Nat) (k : Res → Option Res) : Option Res := k (Res.mk (.ar 118 [.sc (.int .u32 1116352408), .sc (.int .u32 1899447441), .sc (.int .u32 3049323471), .sc (.int .u32 3921009573), .sc (.int .u32 961987163), .sc (.int .u32 1508970993), .sc (.int .u32 2453635748), .sc (.int .u32 2870763221), .sc (.int .u32 3624381080), .sc (.int .u32 310598401), .sc (.int .u32 607225278), .sc (.int .u32 1426881987), .sc (.int .u32 1925078388), .sc (.int .u32 2162078206), .sc (.int .u32 2614888103), .sc (.int .u32 3248222580), .sc (.int .u32 3835390401), .sc (.int .u32 4022224774), .sc (.int .u32 264347078), .sc (.int .u32 604807628), .sc (.int .u32 770255983), .sc (.int .u32 1249150122), .sc (.int .u32 1555081692), .sc (.int .u32 1996064986), .sc (.int .u32 2554220882), .sc (.int .u32 2821834349), .sc (.int .u32 2952996808), .sc (.int .u32 3210313671), .sc (.int .u32 3336571891), .sc (.int .u32 3584528711), .sc (.int .u32 113926993), .sc (.int .u32 338241895), .sc (.int .u32 666307205), .sc (.int .u32 773529912), .sc (.int .u32 1294757372), .sc (.int .u32 1396182291), .sc (.int .u32 1695183700), .sc (.int .u32 1986661051), .sc (.int .u32 2177026350), .sc (.int .u32 2456956037), .sc (.int .u32 2730485921), .sc (.int .u32 2820302411), .sc (.int .u32 3259730800), .sc (.int .u32 3345764771), .sc (.int .u32 3516065817), .sc (.int .u32 3600352804), .sc (.int .u32 4094571909), .sc (.int .u32 275423344), .sc (.int .u32 430227734), .sc (.int .u32 506948616), .sc (.int .u32 659060556), .sc (.int .u32 883997877), .sc (.int .u32 958139571), .sc (.int .u32 1322822218), .sc (.int .u32 1537002063), .sc (.int .u32 1747873779), .sc (.int .u32 1955562222), .sc (.int .u32 2024104815), .sc (.int .u32 2227730452), .sc (.int .u32 2361852424), .sc (.int .u32 2428436474), .sc (.int .u32 2756734187), .sc (.int .u32 3204031479), .sc (.int .u32 3329325298)]) [] [])
theorem e72 (f : Nat) (k : Res → Option Res) : JR tau F72 Try.f72 (Try.f72.body.get!) Jmr [.ro] 0 [] [] k = g72 f k := by kernel_rfl
theorem JxY (f : Nat) : Jg (Try.f72.body.get!) Jmr = [] := by kernel_rfl
theorem JxZ (f : Nat) : ∀ q ∈ Jg (Try.f72.body.get!) Jmr, q.Ok tau Try.prog 0 := by
  rw [JxY f]; intro q hq; cases hq
theorem JuD : Try.prog.funcs[72]? = some Try.f72 := by kernel_rfl
theorem JuE : Try.f72.body = some (Try.f72.body.get!) := by kernel_rfl
theorem Jx0 : Enters Try.prog 72 := enters_of JuD (by kernel_rfl) JuE
noncomputable def Jkf : List PV → List Ent → (Res → Option Res) → Option Res
  | [], [], k => g72 0  k
  | _, _, _ => none
noncomputable def s72 : Sig := { own := [], run := Jkf }
theorem Jx1 : Ji tau Try.prog 72 s72 := J3 Jr JqV Js JuD JuE Jmr [.ro] 0 [] Jkf (JxZ 0) fun xs es k res hr => by
  unfold Jkf at hr
  split at hr
  · exact ⟨rfl, 0, (e72 0  _).trans hr⟩
  · cases hr
def N28 : Nat := 278
noncomputable def F28 : Fns := JG 72 s72 (JG 73 JsZ F0)
theorem XR : Jz tau Try.prog F28 := (JH.add Js0 Jxi).add Jx1 Jx0
noncomputable def Jb0 : Code := QA (Try.f28.body.get!) [1, 1, 1, 1, 1, 0, 0, 0]
def XS : Nm := [(0, .any), (2, .any), (3, .any), (4, .any), (5, .any)]
def YQ : Nm := [(0, .any), (2, .any), (3, .any), (4, .any), (5, .any)]
def Jez : An := (.seq (.seq .leaf (.cond .leaf .leaf)) (.block none .leaf))
noncomputable def Jb1 : Code := QA (Try.f28.body.get!) [1, 1, 1, 1, 1, 1, 1, 0, 1, 0, 0]
def XT : Nm := [(2, .any), (3, .any), (4, .any), (5, .any), (6, .any), (7, .any)]
def YR : Nm := [(2, .any), (3, .any), (4, .any), (5, .any)]
def JeA : An := (.seq (.seq .leaf (.cond .leaf .leaf)) (.seq (.block none .leaf) .leaf))
noncomputable def Jb2 : Code := QA (Try.f28.body.get!) [1, 1, 1, 1, 1, 1, 1, 1, 1, 0, 1, 0, 0, 1, 0, 0, 0, 1, 0, 0]
def XU : Nm := [(2, .any), (3, .any), (4, .any), (5, .any), (8, .any), (9, .any), (10, .any)]
def YS : Nm := [(2, .any), (3, .any), (4, .any), (5, .any), (8, .any), (9, .any)]
def JeB : An := (.seq (.seq .leaf (.cond .leaf .leaf)) (.seq (.block none (.seq .leaf .leaf)) .leaf))
noncomputable def Jb3 : Code := QA (Try.f28.body.get!) [1, 1, 1, 1, 1, 1, 1, 1, 1, 0, 1, 0, 0, 1, 0, 0, 1, 0, 1, 0, 0]
def XV : Nm := [(2, .any), (3, .any), (4, .any), (5, .any), (8, .any), (9, .any), (12, .any)]
def YT : Nm := [(2, .any), (3, .any), (4, .any), (5, .any), (8, .any), (9, .any)]
def JeC : An := (.seq (.seq .leaf (.cond .leaf .leaf)) (.seq (.block none (.seq .leaf .leaf)) .leaf))
noncomputable def Jb4 : Code := QA (Try.f28.body.get!) [1, 1, 1, 1, 1, 1, 1, 1, 1, 0, 1, 0, 0, 1, 0, 0, 1, 1, 1, 0, 1, 0, 0]
def XW : Nm := [(2, .any), (3, .any), (4, .any), (5, .any), (8, .any), (9, .any), (15, .any), (16, .any)]
def YU : Nm := [(2, .any), (3, .any), (4, .any), (5, .any), (8, .any), (9, .any), (15, .any)]
def JeD : An := (.seq (.seq .leaf (.cond .leaf .leaf)) (.seq (.block none (.seq .leaf (.seq .leaf (.seq .leaf .leaf)))) .leaf))
noncomputable def Jb5 : Code := QA (Try.f28.body.get!) [1, 1, 1, 1, 1, 1, 1, 1, 1, 0, 1, 0, 0, 1, 0, 0, 1, 1, 1, 1, 1, 0, 0]
def XX : Nm := [(2, .any), (3, .any), (4, .any), (5, .any), (8, .any), (9, .any), (15, .any), (20, .any)]
def YV : Nm := [(2, .any), (3, .any), (4, .any), (5, .any), (8, .any), (9, .any)]
def JeE : An := (.seq (.seq .leaf (.cond .leaf .leaf)) (.seq (.block none .leaf) .leaf))
noncomputable def Jb6 : Code := QA (Try.f28.body.get!) [1, 1, 1, 1, 1, 1, 1, 1, 1, 0, 1, 0, 0]
def XY : Nm := [(2, .any), (3, .any), (4, .any), (5, .any), (8, .any), (9, .any)]
def YW : Nm := [(2, .any), (4, .any)]
def JeF (r3 : Wg) (r4 : Wg) (r5 : Wg) (r6 : Wg) : An := (.seq (.seq .leaf (.cond .leaf .leaf)) (.seq (.block none (.seq (.seq .leaf (.block none (.sum XU N28 r3))) (.seq (.seq .leaf (.block none (.sum XV N28 r4))) (.seq .leaf (.seq (.seq .leaf (.block none (.sum XW N28 r5))) (.seq .leaf (.block none (.sum XX N28 r6)))))))) .leaf))
noncomputable def Jb7 : Code := QA (Try.f28.body.get!) [1, 1, 1, 1, 1, 1, 1, 1, 1, 1, 1, 0, 1, 0, 0]
def XZ : Nm := [(2, .any), (4, .any), (21, .any), (22, .any)]
def YX : Nm := [(2, .any), (21, .any)]
def JeG : An := (.seq (.seq .leaf (.cond .leaf .leaf)) (.seq (.block none .leaf) .leaf))
def Jms (r0 : Wg) (r1 : Wg) (r2 : Wg) (r7 : Wg) : An := (.seq .leaf (.seq .leaf (.seq .leaf (.seq .leaf (.seq .leaf (.seq (.block none (.sum XS N28 r0)) (.seq .leaf (.seq (.seq .leaf (.block none (.sum XT N28 r1))) (.seq .leaf (.seq (.seq .leaf (.block none (.sum XY N28 r2))) (.seq .leaf (.seq (.seq .leaf (.block none (.sum XZ N28 r7))) (.seq .leaf .leaf)))))))))))))
def VC (f : Nat) (rc : Bool → Bool → List PV → Nat → List PV → List PV → List PV → List PV → Option Res) (k0 : Bool → Bool → List PV → Nat → List PV → List PV → List PV → List PV → Option Res) (v0 : Bool) (v1 : Bool) (v2 : List PV) (v3 : Nat) (v4 : List PV) (v5 : List PV) (v6 : List PV) (v7 : List PV) : Option Res := bif (zi v3).tmod 64 != 56 then bif Jj (v3 + 1) 1 && true then rc v0 v1 v2 (v3 + 1) v4 v5 v6 (List.take v3 v7 ++ [.sc (.int .u8 0)]) else none else k0 v0 v1 v2 v3 v4 v5 v6 v7
def ZP (f : Nat) (k0 : Bool → Bool → List PV → Nat → List PV → List PV → List PV → List PV → Option Res) : Nat → Bool → Bool → List PV → Nat → List PV → List PV → List PV → List PV → Option Res
  | 0, _, _, _, _, _, _, _, _ => none
  | n + 1, v0, v1, v2, v3, v4, v5, v6, v7 => VC f (ZP f k0 n) k0 v0 v1 v2 v3 v4 v5 v6 v7
theorem Jmt (f : Nat) (k : Kont) (n : Nat) (v0 : Bool) (v1 : Bool) (v2 : List PV) (v3 : Nat) (v4 : List PV) (v5 : List PV) (v6 : List PV) (v7 : List PV) : Jo tau 0 XS (fun s k => ev tau F28 0 0 Jb0 (Jez ) s k) (n + 1) (Jd XS N28 [.ro 5 v0 v1 v2, .ptr 4464 [], .ptr 4465 [], .ptr 4466 [], .ow 5 4467 [] 0 v3 none] [(4464, .box false 37 (PV.ar 37 v4)), (4465, .box false 118 (PV.ar 118 v5)), (4466, .box false 112 (PV.ar 112 v6)), (4467, .vec false 5 false v7)]) (Jy tau 0 YQ k) = VC f (fun v0 v1 v2 v3 v4 v5 v6 v7 => Jo tau 0 XS (fun s k => ev tau F28 0 0 Jb0 (Jez ) s k) n (Jd XS N28 [.ro 5 v0 v1 v2, .ptr 4464 [], .ptr 4465 [], .ptr 4466 [], .ow 5 4467 [] 0 v3 none] [(4464, .box false 37 (PV.ar 37 v4)), (4465, .box false 118 (PV.ar 118 v5)), (4466, .box false 112 (PV.ar 112 v6)), (4467, .vec false 5 false v7)]) (Jy tau 0 YQ k)) (fun x0 x1 x2 x3 x4 x5 x6 x7 => k (Ex.exit 0) (Jd YQ N28 [.ro 5 x0 x1 x2, .ptr 4464 [], .ptr 4465 [], .ptr 4466 [], .ow 5 4467 [] 0 x3 none] [(4464, .box false 37 (PV.ar 37 x4)), (4465, .box false 118 (PV.ar 118 x5)), (4466, .box false 112 (PV.ar 112 x6)), (4467, .vec false 5 false x7)])) v0 v1 v2 v3 v4 v5 v6 v7 := by kernel_rfl
theorem Jht (f : Nat) (k : Kont) : ∀ (n : Nat) (v0 : Bool) (v1 : Bool) (v2 : List PV) (v3 : Nat) (v4 : List PV) (v5 : List PV) (v6 : List PV) (v7 : List PV), Jo tau 0 XS (fun s k => ev tau F28 0 0 Jb0 (Jez ) s k) n (Jd XS N28 [.ro 5 v0 v1 v2, .ptr 4464 [], .ptr 4465 [], .ptr 4466 [], .ow 5 4467 [] 0 v3 none] [(4464, .box false 37 (PV.ar 37 v4)), (4465, .box false 118 (PV.ar 118 v5)), (4466, .box false 112 (PV.ar 112 v6)), (4467, .vec false 5 false v7)]) (Jy tau 0 YQ k) = ZP f (fun x0 x1 x2 x3 x4 x5 x6 x7 => k (Ex.exit 0) (Jd YQ N28 [.ro 5 x0 x1 x2, .ptr 4464 [], .ptr 4465 [], .ptr 4466 [], .ow 5 4467 [] 0 x3 none] [(4464, .box false 37 (PV.ar 37 x4)), (4465, .box false 118 (PV.ar 118 x5)), (4466, .box false 112 (PV.ar 112 x6)), (4467, .vec false 5 false x7)])) n v0 v1 v2 v3 v4 v5 v6 v7 | 0, _, _, _, _, _, _, _, _ => rfl | n + 1, v0, v1, v2, v3, v4, v5, v6, v7 => (Jmt f k n v0 v1 v2 v3 v4 v5 v6 v7).trans (congrArg (fun r => VC f r (fun x0 x1 x2 x3 x4 x5 x6 x7 => k (Ex.exit 0) (Jd YQ N28 [.ro 5 x0 x1 x2, .ptr 4464 [], .ptr 4465 [], .ptr 4466 [], .ow 5 4467 [] 0 x3 none] [(4464, .box false 37 (PV.ar 37 x4)), (4465, .box false 118 (PV.ar 118 x5)), (4466, .box false 112 (PV.ar 112 x6)), (4467, .vec false 5 false x7)])) v0 v1 v2 v3 v4 v5 v6 v7) (by funext v0 v1 v2 v3 v4 v5 v6 v7; exact Jht f k n v0 v1 v2 v3 v4 v5 v6 v7))
def JaQ (f : Nat) : List PV → List (Nat × Ent) → Kont → Option Res
  | [.ro 5 v0 v1 v2, .ptr 4464 [], .ptr 4465 [], .ptr 4466 [],
  PV.ow 5 4467 [] 0 v3
    none], [(4464, .box false 37 (PV.ar 37 v4)), (4465, .box false 118 (PV.ar 118 v5)), (4466, .box false 112 (PV.ar 112 v6)),
  (4467,
    Ent.vec false 5 false
      v7)], k => ZP f (fun x0 x1 x2 x3 x4 x5 x6 x7 => k (Ex.exit
  0) (Jd YQ N28 [.ro 5 x0 x1 x2, .ptr 4464 [], .ptr 4465 [], .ptr 4466 [],
  PV.ow 5 4467 [] 0 x3
    none] [(4464, .box false 37 (PV.ar 37 x4)), (4465, .box false 118 (PV.ar 118 x5)), (4466, .box false 112 (PV.ar 112 x6)), (4467, .vec false 5 false x7)])) f v0 v1 v2 v3 v4 v5 v6 v7
  | _, _, _ => none
theorem JqW (f : Nat) : Jg Jb0 Jez = [] := by kernel_rfl
theorem JuF (f : Nat) : (Item.l Jb0 XS N28 (JaQ f)).Ok tau Try.prog 0 := JJ Jr XR Js (x := Jez) (nm2 := YQ) (Jp _ _ (by rw [JqW f]; intro q hq; cases hq)) fun vs hp k res hr => by
  unfold JaQ at hr
  split at hr
  · exact ⟨f, 0, (Jht f _ f _ _ _ _ _ _ _ _ ).trans hr⟩
  · cases hr
def VD (f : Nat) (rc : Nat → Int → Int → List PV → List PV → List PV → List PV → Option Res) (k0 : Nat → List PV → List PV → List PV → List PV → Option Res) (v0 : Nat) (v1 : Int) (v2 : Int) (v3 : List PV) (v4 : List PV) (v5 : List PV) (v6 : List PV) : Option Res := bif decide (v2 ≥ 0) then bif decide (0 ≤ IntKind.u64.wrap (8 * IntKind.u64.wrap v2)) && true then bif Jj (v0 + 1) 1 && true then rc (v0 + 1) v1 (IntKind.i64.wrap (v2 - 1)) v3 v4 v5 (List.take v0 v6 ++ [.sc (.int .u8 (IntKind.u8.wrap (Jx IntKind.u64 v1 (IntKind.u64.wrap (8 * IntKind.u64.wrap v2)))))]) else none else none else k0 v0 v3 v4 v5 v6
def ZQ (f : Nat) (k0 : Nat → List PV → List PV → List PV → List PV → Option Res) : Nat → Nat → Int → Int → List PV → List PV → List PV → List PV → Option Res
  | 0, _, _, _, _, _, _, _ => none
  | n + 1, v0, v1, v2, v3, v4, v5, v6 => VD f (ZQ f k0 n) k0 v0 v1 v2 v3 v4 v5 v6
theorem Jmu (f : Nat) (k : Kont) (n : Nat) (v0 : Nat) (v1 : Int) (v2 : Int) (v3 : List PV) (v4 : List PV) (v5 : List PV) (v6 : List PV) : Jo tau 0 XT (fun s k => ev tau F28 0 0 Jb1 (JeA ) s k) (n + 1) (Jd XT N28 [.ptr 4464 [], .ptr 4465 [], .ptr 4466 [], .ow 5 4467 [] 0 v0 none, .sc (.int .u64 v1), .sc (.int .i64 v2)] [(4464, .box false 37 (PV.ar 37 v3)), (4465, .box false 118 (PV.ar 118 v4)), (4466, .box false 112 (PV.ar 112 v5)), (4467, .vec false 5 false v6)]) (Jy tau 0 YR k) = VD f (fun v0 v1 v2 v3 v4 v5 v6 => Jo tau 0 XT (fun s k => ev tau F28 0 0 Jb1 (JeA ) s k) n (Jd XT N28 [.ptr 4464 [], .ptr 4465 [], .ptr 4466 [], .ow 5 4467 [] 0 v0 none, .sc (.int .u64 v1), .sc (.int .i64 v2)] [(4464, .box false 37 (PV.ar 37 v3)), (4465, .box false 118 (PV.ar 118 v4)), (4466, .box false 112 (PV.ar 112 v5)), (4467, .vec false 5 false v6)]) (Jy tau 0 YR k)) (fun x0 x1 x2 x3 x4 => k (Ex.exit 2) (Jd YR N28 [.ptr 4464 [], .ptr 4465 [], .ptr 4466 [], .ow 5 4467 [] 0 x0 none] [(4464, .box false 37 (PV.ar 37 x1)), (4465, .box false 118 (PV.ar 118 x2)), (4466, .box false 112 (PV.ar 112 x3)), (4467, .vec false 5 false x4)])) v0 v1 v2 v3 v4 v5 v6 := by kernel_rfl
theorem Jhu (f : Nat) (k : Kont) : ∀ (n : Nat) (v0 : Nat) (v1 : Int) (v2 : Int) (v3 : List PV) (v4 : List PV) (v5 : List PV) (v6 : List PV), Jo tau 0 XT (fun s k => ev tau F28 0 0 Jb1 (JeA ) s k) n (Jd XT N28 [.ptr 4464 [], .ptr 4465 [], .ptr 4466 [], .ow 5 4467 [] 0 v0 none, .sc (.int .u64 v1), .sc (.int .i64 v2)] [(4464, .box false 37 (PV.ar 37 v3)), (4465, .box false 118 (PV.ar 118 v4)), (4466, .box false 112 (PV.ar 112 v5)), (4467, .vec false 5 false v6)]) (Jy tau 0 YR k) = ZQ f (fun x0 x1 x2 x3 x4 => k (Ex.exit 2) (Jd YR N28 [.ptr 4464 [], .ptr 4465 [], .ptr 4466 [], .ow 5 4467 [] 0 x0 none] [(4464, .box false 37 (PV.ar 37 x1)), (4465, .box false 118 (PV.ar 118 x2)), (4466, .box false 112 (PV.ar 112 x3)), (4467, .vec false 5 false x4)])) n v0 v1 v2 v3 v4 v5 v6 | 0, _, _, _, _, _, _, _ => rfl | n + 1, v0, v1, v2, v3, v4, v5, v6 => (Jmu f k n v0 v1 v2 v3 v4 v5 v6).trans (congrArg (fun r => VD f r (fun x0 x1 x2 x3 x4 => k (Ex.exit 2) (Jd YR N28 [.ptr 4464 [], .ptr 4465 [], .ptr 4466 [], .ow 5 4467 [] 0 x0 none] [(4464, .box false 37 (PV.ar 37 x1)), (4465, .box false 118 (PV.ar 118 x2)), (4466, .box false 112 (PV.ar 112 x3)), (4467, .vec false 5 false x4)])) v0 v1 v2 v3 v4 v5 v6) (by funext v0 v1 v2 v3 v4 v5 v6; exact Jhu f k n v0 v1 v2 v3 v4 v5 v6))
def JaR (f : Nat) : List PV → List (Nat × Ent) → Kont → Option Res
  | [.ptr 4464 [], .ptr 4465 [], .ptr 4466 [], .ow 5 4467 [] 0 v0 none, .sc (.int .u64 v1),
  PV.sc
    (Value.int IntKind.i64
      v2)], [(4464, .box false 37 (PV.ar 37 v3)), (4465, .box false 118 (PV.ar 118 v4)), (4466, .box false 112 (PV.ar 112 v5)),
  (4467,
    Ent.vec false 5 false
      v6)], k => ZQ f (fun x0 x1 x2 x3 x4 => k (Ex.exit
  2) (Jd YR N28 [.ptr 4464 [], .ptr 4465 [], .ptr 4466 [],
  PV.ow 5 4467 [] 0 x0
    none] [(4464, .box false 37 (PV.ar 37 x1)), (4465, .box false 118 (PV.ar 118 x2)), (4466, .box false 112 (PV.ar 112 x3)), (4467, .vec false 5 false x4)])) f v0 v1 v2 v3 v4 v5 v6
  | _, _, _ => none
theorem JqX (f : Nat) : Jg Jb1 JeA = [] := by kernel_rfl
theorem JuG (f : Nat) : (Item.l Jb1 XT N28 (JaR f)).Ok tau Try.prog 0 := JJ Jr XR Js (x := JeA) (nm2 := YR) (Jp _ _ (by rw [JqX f]; intro q hq; cases hq)) fun vs hp k res hr => by
  unfold JaR at hr
  split at hr
  · exact ⟨f, 0, (Jhu f _ f _ _ _ _ _ _ _ ).trans hr⟩
  · cases hr
def VE (f : Nat) (rc : Nat → Int → Int → List PV → List PV → List PV → List PV → List PV → Option Res) (k0 : Nat → Int → List PV → List PV → List PV → List PV → List PV → Option Res) (v0 : Nat) (v1 : Int) (v2 : Int) (v3 : List PV) (v4 : List PV) (v5 : List PV) (v6 : List PV) (v7 : List PV) : Option Res := bif decide (v2 < 16) then bif decide (0 ≤ IntKind.i64.wrap (v1 + IntKind.i64.wrap (4 * v2))) && decide (IntKind.i64.wrap (v1 + IntKind.i64.wrap (4 * v2)) < zi v0) && true then bif PV.isInt IntKind.u8 (Jm (v6.getD (0 + (IntKind.i64.wrap (v1 + IntKind.i64.wrap (4 * v2))).toNat) PV.top) []) && true then bif decide (0 ≤ IntKind.i64.wrap (IntKind.i64.wrap (v1 + IntKind.i64.wrap (4 * v2)) + 1)) && decide (IntKind.i64.wrap (IntKind.i64.wrap (v1 + IntKind.i64.wrap (4 * v2)) + 1) < zi v0) && true then bif PV.isInt IntKind.u8 (Jm (v6.getD (0 + (IntKind.i64.wrap (IntKind.i64.wrap (v1 + IntKind.i64.wrap (4 * v2)) + 1)).toNat) PV.top) []) && true then bif decide (0 ≤ IntKind.i64.wrap (IntKind.i64.wrap (v1 + IntKind.i64.wrap (4 * v2)) + 2)) && decide (IntKind.i64.wrap (IntKind.i64.wrap (v1 + IntKind.i64.wrap (4 * v2)) + 2) < zi v0) && true then bif PV.isInt IntKind.u8 (Jm (v6.getD (0 + (IntKind.i64.wrap (IntKind.i64.wrap (v1 + IntKind.i64.wrap (4 * v2)) + 2)).toNat) PV.top) []) && true then bif decide (0 ≤ IntKind.i64.wrap (IntKind.i64.wrap (v1 + IntKind.i64.wrap (4 * v2)) + 3)) && decide (IntKind.i64.wrap (IntKind.i64.wrap (v1 + IntKind.i64.wrap (4 * v2)) + 3) < zi v0) && true then bif PV.isInt IntKind.u8 (Jm (v6.getD (0 + (IntKind.i64.wrap (IntKind.i64.wrap (v1 + IntKind.i64.wrap (4 * v2)) + 3)).toNat) PV.top) []) && true then bif decide (0 ≤ v2) && decide (v2 < zi 64) && true then rc v0 v1 (IntKind.i64.wrap (v2 + 1)) v3 v4 v5 v6 (v7.set v2.toNat (.sc (.int .u32 (JC BinOp.or IntKind.u32 (JC BinOp.or IntKind.u32 (JC BinOp.or IntKind.u32 (Xb IntKind.u32 (IntKind.u32.wrap (Jm (v6.getD (0 + (IntKind.i64.wrap (v1 + IntKind.i64.wrap (4 * v2))).toNat) PV.top) []).int) 24) (Xb IntKind.u32 (IntKind.u32.wrap (Jm (v6.getD (0 + (IntKind.i64.wrap (IntKind.i64.wrap (v1 + IntKind.i64.wrap (4 * v2)) + 1)).toNat) PV.top) []).int) 16)) (Xb IntKind.u32 (IntKind.u32.wrap (Jm (v6.getD (0 + (IntKind.i64.wrap (IntKind.i64.wrap (v1 + IntKind.i64.wrap (4 * v2)) + 2)).toNat) PV.top) []).int) 8)) (IntKind.u32.wrap (Jm (v6.getD (0 + (IntKind.i64.wrap (IntKind.i64.wrap (v1 + IntKind.i64.wrap (4 * v2)) + 3)).toNat) PV.top) []).int))))) else none else none else none else none else none else none else none else none else none else k0 v0 v1 v3 v4 v5 v6 v7
def ZR (f : Nat) (k0 : Nat → Int → List PV → List PV → List PV → List PV → List PV → Option Res) : Nat → Nat → Int → Int → List PV → List PV → List PV → List PV → List PV → Option Res
  | 0, _, _, _, _, _, _, _, _ => none
  | n + 1, v0, v1, v2, v3, v4, v5, v6, v7 => VE f (ZR f k0 n) k0 v0 v1 v2 v3 v4 v5 v6 v7
theorem Jmv (f : Nat) (k : Kont) (n : Nat) (v0 : Nat) (v1 : Int) (v2 : Int) (v3 : List PV) (v4 : List PV) (v5 : List PV) (v6 : List PV) (v7 : List PV) : Jo tau 0 XU (fun s k => ev tau F28 0 0 Jb2 (JeB ) s k) (n + 1) (Jd XU N28 [.ptr 4464 [], .ptr 4465 [], .ptr 4466 [], .ow 5 4467 [] 0 v0 none, .ptr 4468 [], .sc (.int .i64 v1), .sc (.int .i64 v2)] [(4464, .box false 37 (PV.ar 37 v3)), (4465, .box false 118 (PV.ar 118 v4)), (4466, .box false 112 (PV.ar 112 v5)), (4467, .vec false 5 false v6), (4468, .box false 118 (PV.ar 118 v7))]) (Jy tau 0 YS k) = VE f (fun v0 v1 v2 v3 v4 v5 v6 v7 => Jo tau 0 XU (fun s k => ev tau F28 0 0 Jb2 (JeB ) s k) n (Jd XU N28 [.ptr 4464 [], .ptr 4465 [], .ptr 4466 [], .ow 5 4467 [] 0 v0 none, .ptr 4468 [], .sc (.int .i64 v1), .sc (.int .i64 v2)] [(4464, .box false 37 (PV.ar 37 v3)), (4465, .box false 118 (PV.ar 118 v4)), (4466, .box false 112 (PV.ar 112 v5)), (4467, .vec false 5 false v6), (4468, .box false 118 (PV.ar 118 v7))]) (Jy tau 0 YS k)) (fun x0 x1 x2 x3 x4 x5 x6 => k (Ex.exit 6) (Jd YS N28 [.ptr 4464 [], .ptr 4465 [], .ptr 4466 [], .ow 5 4467 [] 0 x0 none, .ptr 4468 [], .sc (.int .i64 x1)] [(4464, .box false 37 (PV.ar 37 x2)), (4465, .box false 118 (PV.ar 118 x3)), (4466, .box false 112 (PV.ar 112 x4)), (4467, .vec false 5 false x5), (4468, .box false 118 (PV.ar 118 x6))])) v0 v1 v2 v3 v4 v5 v6 v7 := by kernel_rfl
theorem Jhv (f : Nat) (k : Kont) : ∀ (n : Nat) (v0 : Nat) (v1 : Int) (v2 : Int) (v3 : List PV) (v4 : List PV) (v5 : List PV) (v6 : List PV) (v7 : List PV), Jo tau 0 XU (fun s k => ev tau F28 0 0 Jb2 (JeB ) s k) n (Jd XU N28 [.ptr 4464 [], .ptr 4465 [], .ptr 4466 [], .ow 5 4467 [] 0 v0 none, .ptr 4468 [], .sc (.int .i64 v1), .sc (.int .i64 v2)] [(4464, .box false 37 (PV.ar 37 v3)), (4465, .box false 118 (PV.ar 118 v4)), (4466, .box false 112 (PV.ar 112 v5)), (4467, .vec false 5 false v6), (4468, .box false 118 (PV.ar 118 v7))]) (Jy tau 0 YS k) = ZR f (fun x0 x1 x2 x3 x4 x5 x6 => k (Ex.exit 6) (Jd YS N28 [.ptr 4464 [], .ptr 4465 [], .ptr 4466 [], .ow 5 4467 [] 0 x0 none, .ptr 4468 [], .sc (.int .i64 x1)] [(4464, .box false 37 (PV.ar 37 x2)), (4465, .box false 118 (PV.ar 118 x3)), (4466, .box false 112 (PV.ar 112 x4)), (4467, .vec false 5 false x5), (4468, .box false 118 (PV.ar 118 x6))])) n v0 v1 v2 v3 v4 v5 v6 v7 | 0, _, _, _, _, _, _, _, _ => rfl | n + 1, v0, v1, v2, v3, v4, v5, v6, v7 => (Jmv f k n v0 v1 v2 v3 v4 v5 v6 v7).trans (congrArg (fun r => VE f r (fun x0 x1 x2 x3 x4 x5 x6 => k (Ex.exit 6) (Jd YS N28 [.ptr 4464 [], .ptr 4465 [], .ptr 4466 [], .ow 5 4467 [] 0 x0 none, .ptr 4468 [], .sc (.int .i64 x1)] [(4464, .box false 37 (PV.ar 37 x2)), (4465, .box false 118 (PV.ar 118 x3)), (4466, .box false 112 (PV.ar 112 x4)), (4467, .vec false 5 false x5), (4468, .box false 118 (PV.ar 118 x6))])) v0 v1 v2 v3 v4 v5 v6 v7) (by funext v0 v1 v2 v3 v4 v5 v6 v7; exact Jhv f k n v0 v1 v2 v3 v4 v5 v6 v7))
def GH (f : Nat) : List PV → List (Nat × Ent) → Kont → Option Res
  | [.ptr 4464 [], .ptr 4465 [], .ptr 4466 [], .ow 5 4467 [] 0 v0 none, .ptr 4468 [], .sc (.int .i64 v1),
  PV.sc
    (Value.int IntKind.i64
      v2)], [(4464, .box false 37 (PV.ar 37 v3)), (4465, .box false 118 (PV.ar 118 v4)), (4466, .box false 112 (PV.ar 112 v5)), (4467, .vec false 5 false v6),
  (4468,
    Ent.box false 118
      (PV.ar 118
        v7))], k => ZR f (fun x0 x1 x2 x3 x4 x5 x6 => k (Ex.exit
  6) (Jd YS N28 [.ptr 4464 [], .ptr 4465 [], .ptr 4466 [], .ow 5 4467 [] 0 x0 none, .ptr 4468 [],
  PV.sc
    (Value.int IntKind.i64
      x1)] [(4464, .box false 37 (PV.ar 37 x2)), (4465, .box false 118 (PV.ar 118 x3)), (4466, .box false 112 (PV.ar 112 x4)), (4467, .vec false 5 false x5),
  (4468, .box false 118 (PV.ar 118 x6))])) f v0 v1 v2 v3 v4 v5 v6 v7
  | _, _, _ => none
theorem JqY (f : Nat) : Jg Jb2 JeB = [] := by kernel_rfl
theorem JuH (f : Nat) : (Item.l Jb2 XU N28 (GH f)).Ok tau Try.prog 0 := JJ Jr XR Js (x := JeB) (nm2 := YS) (Jp _ _ (by rw [JqY f]; intro q hq; cases hq)) fun vs hp k res hr => by
  unfold GH at hr
  split at hr
  · exact ⟨f, 0, (Jhv f _ f _ _ _ _ _ _ _ _ ).trans hr⟩
  · cases hr
def VF (f : Nat) (rc : Nat → Int → Int → List PV → List PV → List PV → List PV → List PV → Option Res) (k0 : Nat → Int → List PV → List PV → List PV → List PV → List PV → Option Res) (v0 : Nat) (v1 : Int) (v2 : Int) (v3 : List PV) (v4 : List PV) (v5 : List PV) (v6 : List PV) (v7 : List PV) : Option Res := bif decide (v2 < 64) then bif decide (0 ≤ IntKind.i64.wrap (v2 - 15)) && decide (IntKind.i64.wrap (v2 - 15) < zi 64) && true then bif PV.isInt IntKind.u32 (Jm (PV.ar 118 v7) [(IntKind.i64.wrap (v2 - 15)).toNat]) && true then bif decide (0 ≤ IntKind.i64.wrap (v2 - 2)) && decide (IntKind.i64.wrap (v2 - 2) < zi 64) && true then bif PV.isInt IntKind.u32 (Jm (PV.ar 118 v7) [(IntKind.i64.wrap (v2 - 2)).toNat]) && true then bif decide (0 ≤ IntKind.i64.wrap (v2 - 7)) && decide (IntKind.i64.wrap (v2 - 7) < zi 64) && true then bif PV.isInt IntKind.u32 (Jm (PV.ar 118 v7) [(IntKind.i64.wrap (v2 - 7)).toNat]) && true then bif decide (0 ≤ IntKind.i64.wrap (v2 - 16)) && decide (IntKind.i64.wrap (v2 - 16) < zi 64) && true then bif PV.isInt IntKind.u32 (Jm (PV.ar 118 v7) [(IntKind.i64.wrap (v2 - 16)).toNat]) && true then bif decide (0 ≤ v2) && decide (v2 < zi 64) && true then rc v0 v1 (IntKind.i64.wrap (v2 + 1)) v3 v4 v5 v6 (v7.set v2.toNat (.sc (.int .u32 (IntKind.u32.wrap (IntKind.u32.wrap (IntKind.u32.wrap (JC BinOp.xor IntKind.u32 (JC BinOp.xor IntKind.u32 (rr (Jm (PV.ar 118 v7) [(IntKind.i64.wrap (v2 - 2)).toNat]).int 17) (rr (Jm (PV.ar 118 v7) [(IntKind.i64.wrap (v2 - 2)).toNat]).int 19)) (Jx IntKind.u32 (Jm (PV.ar 118 v7) [(IntKind.i64.wrap (v2 - 2)).toNat]).int 10) + (Jm (PV.ar 118 v7) [(IntKind.i64.wrap (v2 - 7)).toNat]).int) + JC BinOp.xor IntKind.u32 (JC BinOp.xor IntKind.u32 (rr (Jm (PV.ar 118 v7) [(IntKind.i64.wrap (v2 - 15)).toNat]).int 7) (rr (Jm (PV.ar 118 v7) [(IntKind.i64.wrap (v2 - 15)).toNat]).int 18)) (Jx IntKind.u32 (Jm (PV.ar 118 v7) [(IntKind.i64.wrap (v2 - 15)).toNat]).int 3)) + (Jm (PV.ar 118 v7) [(IntKind.i64.wrap (v2 - 16)).toNat]).int))))) else none else none else none else none else none else none else none else none else none else k0 v0 v1 v3 v4 v5 v6 v7
def ZS (f : Nat) (k0 : Nat → Int → List PV → List PV → List PV → List PV → List PV → Option Res) : Nat → Nat → Int → Int → List PV → List PV → List PV → List PV → List PV → Option Res
  | 0, _, _, _, _, _, _, _, _ => none
  | n + 1, v0, v1, v2, v3, v4, v5, v6, v7 => VF f (ZS f k0 n) k0 v0 v1 v2 v3 v4 v5 v6 v7
theorem Jmw (f : Nat) (k : Kont) (n : Nat) (v0 : Nat) (v1 : Int) (v2 : Int) (v3 : List PV) (v4 : List PV) (v5 : List PV) (v6 : List PV) (v7 : List PV) : Jo tau 0 XV (fun s k => ev tau F28 0 0 Jb3 (JeC ) s k) (n + 1) (Jd XV N28 [.ptr 4464 [], .ptr 4465 [], .ptr 4466 [], .ow 5 4467 [] 0 v0 none, .ptr 4468 [], .sc (.int .i64 v1), .sc (.int .i64 v2)] [(4464, .box false 37 (PV.ar 37 v3)), (4465, .box false 118 (PV.ar 118 v4)), (4466, .box false 112 (PV.ar 112 v5)), (4467, .vec false 5 false v6), (4468, .box false 118 (PV.ar 118 v7))]) (Jy tau 0 YT k) = VF f (fun v0 v1 v2 v3 v4 v5 v6 v7 => Jo tau 0 XV (fun s k => ev tau F28 0 0 Jb3 (JeC ) s k) n (Jd XV N28 [.ptr 4464 [], .ptr 4465 [], .ptr 4466 [], .ow 5 4467 [] 0 v0 none, .ptr 4468 [], .sc (.int .i64 v1), .sc (.int .i64 v2)] [(4464, .box false 37 (PV.ar 37 v3)), (4465, .box false 118 (PV.ar 118 v4)), (4466, .box false 112 (PV.ar 112 v5)), (4467, .vec false 5 false v6), (4468, .box false 118 (PV.ar 118 v7))]) (Jy tau 0 YT k)) (fun x0 x1 x2 x3 x4 x5 x6 => k (Ex.exit 8) (Jd YT N28 [.ptr 4464 [], .ptr 4465 [], .ptr 4466 [], .ow 5 4467 [] 0 x0 none, .ptr 4468 [], .sc (.int .i64 x1)] [(4464, .box false 37 (PV.ar 37 x2)), (4465, .box false 118 (PV.ar 118 x3)), (4466, .box false 112 (PV.ar 112 x4)), (4467, .vec false 5 false x5), (4468, .box false 118 (PV.ar 118 x6))])) v0 v1 v2 v3 v4 v5 v6 v7 := by kernel_rfl
theorem Jhw (f : Nat) (k : Kont) : ∀ (n : Nat) (v0 : Nat) (v1 : Int) (v2 : Int) (v3 : List PV) (v4 : List PV) (v5 : List PV) (v6 : List PV) (v7 : List PV), Jo tau 0 XV (fun s k => ev tau F28 0 0 Jb3 (JeC ) s k) n (Jd XV N28 [.ptr 4464 [], .ptr 4465 [], .ptr 4466 [], .ow 5 4467 [] 0 v0 none, .ptr 4468 [], .sc (.int .i64 v1), .sc (.int .i64 v2)] [(4464, .box false 37 (PV.ar 37 v3)), (4465, .box false 118 (PV.ar 118 v4)), (4466, .box false 112 (PV.ar 112 v5)), (4467, .vec false 5 false v6), (4468, .box false 118 (PV.ar 118 v7))]) (Jy tau 0 YT k) = ZS f (fun x0 x1 x2 x3 x4 x5 x6 => k (Ex.exit 8) (Jd YT N28 [.ptr 4464 [], .ptr 4465 [], .ptr 4466 [], .ow 5 4467 [] 0 x0 none, .ptr 4468 [], .sc (.int .i64 x1)] [(4464, .box false 37 (PV.ar 37 x2)), (4465, .box false 118 (PV.ar 118 x3)), (4466, .box false 112 (PV.ar 112 x4)), (4467, .vec false 5 false x5), (4468, .box false 118 (PV.ar 118 x6))])) n v0 v1 v2 v3 v4 v5 v6 v7 | 0, _, _, _, _, _, _, _, _ => rfl | n + 1, v0, v1, v2, v3, v4, v5, v6, v7 => (Jmw f k n v0 v1 v2 v3 v4 v5 v6 v7).trans (congrArg (fun r => VF f r (fun x0 x1 x2 x3 x4 x5 x6 => k (Ex.exit 8) (Jd YT N28 [.ptr 4464 [], .ptr 4465 [], .ptr 4466 [], .ow 5 4467 [] 0 x0 none, .ptr 4468 [], .sc (.int .i64 x1)] [(4464, .box false 37 (PV.ar 37 x2)), (4465, .box false 118 (PV.ar 118 x3)), (4466, .box false 112 (PV.ar 112 x4)), (4467, .vec false 5 false x5), (4468, .box false 118 (PV.ar 118 x6))])) v0 v1 v2 v3 v4 v5 v6 v7) (by funext v0 v1 v2 v3 v4 v5 v6 v7; exact Jhw f k n v0 v1 v2 v3 v4 v5 v6 v7))
def GI (f : Nat) : List PV → List (Nat × Ent) → Kont → Option Res
  | [.ptr 4464 [], .ptr 4465 [], .ptr 4466 [], .ow 5 4467 [] 0 v0 none, .ptr 4468 [], .sc (.int .i64 v1),
  PV.sc
    (Value.int IntKind.i64
      v2)], [(4464, .box false 37 (PV.ar 37 v3)), (4465, .box false 118 (PV.ar 118 v4)), (4466, .box false 112 (PV.ar 112 v5)), (4467, .vec false 5 false v6),
  (4468,
    Ent.box false 118
      (PV.ar 118
        v7))], k => ZS f (fun x0 x1 x2 x3 x4 x5 x6 => k (Ex.exit
  8) (Jd YT N28 [.ptr 4464 [], .ptr 4465 [], .ptr 4466 [], .ow 5 4467 [] 0 x0 none, .ptr 4468 [],
  PV.sc
    (Value.int IntKind.i64
      x1)] [(4464, .box false 37 (PV.ar 37 x2)), (4465, .box false 118 (PV.ar 118 x3)), (4466, .box false 112 (PV.ar 112 x4)), (4467, .vec false 5 false x5),
  (4468, .box false 118 (PV.ar 118 x6))])) f v0 v1 v2 v3 v4 v5 v6 v7
  | _, _, _ => none
theorem JqZ (f : Nat) : Jg Jb3 JeC = [] := by kernel_rfl
theorem JuI (f : Nat) : (Item.l Jb3 XV N28 (GI f)).Ok tau Try.prog 0 := JJ Jr XR Js (x := JeC) (nm2 := YT) (Jp _ _ (by rw [JqZ f]; intro q hq; cases hq)) fun vs hp k res hr => by
  unfold GI at hr
  split at hr
  · exact ⟨f, 0, (Jhw f _ f _ _ _ _ _ _ _ _ ).trans hr⟩
  · cases hr
def VG (f : Nat) (rc : Nat → Int → Int → List PV → List PV → List PV → List PV → List PV → List PV → Option Res) (k0 : Nat → Int → List PV → List PV → List PV → List PV → List PV → List PV → Option Res) (v0 : Nat) (v1 : Int) (v2 : Int) (v3 : List PV) (v4 : List PV) (v5 : List PV) (v6 : List PV) (v7 : List PV) (v8 : List PV) : Option Res := bif decide (v2 < 64) then bif PV.isInt IntKind.u32 (Jm (PV.ar 112 v8) [4]) && true then bif PV.isInt IntKind.u32 (Jm (PV.ar 112 v8) [7]) && true then bif PV.isInt IntKind.u32 (Jm (PV.ar 112 v8) [5]) && true then bif PV.isInt IntKind.u32 (Jm (PV.ar 112 v8) [6]) && true then bif decide (0 ≤ v2) && decide (v2 < zi 64) && true then bif PV.isInt IntKind.u32 (Jm (PV.ar 118 v4) [v2.toNat]) && true then bif decide (0 ≤ v2) && decide (v2 < zi 64) && true then bif PV.isInt IntKind.u32 (Jm (PV.ar 118 v7) [v2.toNat]) && true then bif PV.isInt IntKind.u32 (Jm (PV.ar 112 v8) [0]) && true then bif PV.isInt IntKind.u32 (Jm (PV.ar 112 v8) [0]) && true then bif PV.isInt IntKind.u32 (Jm (PV.ar 112 v8) [0]) && true then bif PV.isInt IntKind.u32 (Jm (PV.ar 112 v8) [0]) && true then bif PV.isInt IntKind.u32 (Jm (PV.ar 112 v8) [1]) && true then bif PV.isInt IntKind.u32 (Jm (PV.ar 112 v8) [0]) && true then bif PV.isInt IntKind.u32 (Jm (PV.ar 112 v8) [2]) && true then bif PV.isInt IntKind.u32 (Jm (PV.ar 112 v8) [1]) && true then bif PV.isInt IntKind.u32 (Jm (PV.ar 112 v8) [2]) && true then bif PV.isInt IntKind.u32 (Jm (PV.ar 112 v8) [0]) && true then bif PV.isInt IntKind.u32 (Jm (PV.ar 112 v8) [1]) && true then bif PV.isInt IntKind.u32 (Jm (PV.ar 112 v8) [2]) && true then bif PV.isInt IntKind.u32 (Jm (PV.ar 112 v8) [3]) && true then bif PV.isInt IntKind.u32 (Jm (PV.ar 112 v8) [4]) && true then bif PV.isInt IntKind.u32 (Jm (PV.ar 112 v8) [5]) && true then bif PV.isInt IntKind.u32 (Jm (PV.ar 112 v8) [6]) && true then rc v0 v1 (IntKind.i64.wrap (v2 + 1)) v3 v4 v5 v6 v7 ([.sc (.int .u32 (IntKind.u32.wrap (IntKind.u32.wrap (IntKind.u32.wrap (IntKind.u32.wrap (IntKind.u32.wrap ((Jm (PV.ar 112 v8) [7]).int + JC BinOp.xor IntKind.u32 (JC BinOp.xor IntKind.u32 (rr (Jm (PV.ar 112 v8) [4]).int 6) (rr (Jm (PV.ar 112 v8) [4]).int 11)) (rr (Jm (PV.ar 112 v8) [4]).int 25)) + JC BinOp.xor IntKind.u32 (JC BinOp.and IntKind.u32 (Jm (PV.ar 112 v8) [4]).int (Jm (PV.ar 112 v8) [5]).int) (JC BinOp.and IntKind.u32 (JC BinOp.xor IntKind.u32 (Int.ofNat (2 ^ IntKind.u32.bits - Nat.succ 0)) (Jm (PV.ar 112 v8) [4]).int) (Jm (PV.ar 112 v8) [6]).int)) + (Jm (PV.ar 118 v4) [v2.toNat]).int) + (Jm (PV.ar 118 v7) [v2.toNat]).int) + IntKind.u32.wrap (JC BinOp.xor IntKind.u32 (JC BinOp.xor IntKind.u32 (rr (Jm (PV.ar 112 v8) [0]).int 2) (rr (Jm (PV.ar 112 v8) [0]).int 13)) (rr (Jm (PV.ar 112 v8) [0]).int 22) + JC BinOp.xor IntKind.u32 (JC BinOp.xor IntKind.u32 (JC BinOp.and IntKind.u32 (Jm (PV.ar 112 v8) [0]).int (Jm (PV.ar 112 v8) [1]).int) (JC BinOp.and IntKind.u32 (Jm (PV.ar 112 v8) [0]).int (Jm (PV.ar 112 v8) [2]).int)) (JC BinOp.and IntKind.u32 (Jm (PV.ar 112 v8) [1]).int (Jm (PV.ar 112 v8) [2]).int))))), .sc (.int .u32 (Jm (PV.ar 112 v8) [0]).int), .sc (.int .u32 (Jm (PV.ar 112 v8) [1]).int), .sc (.int .u32 (Jm (PV.ar 112 v8) [2]).int), .sc (.int .u32 (IntKind.u32.wrap ((Jm (PV.ar 112 v8) [3]).int + IntKind.u32.wrap (IntKind.u32.wrap (IntKind.u32.wrap (IntKind.u32.wrap ((Jm (PV.ar 112 v8) [7]).int + JC BinOp.xor IntKind.u32 (JC BinOp.xor IntKind.u32 (rr (Jm (PV.ar 112 v8) [4]).int 6) (rr (Jm (PV.ar 112 v8) [4]).int 11)) (rr (Jm (PV.ar 112 v8) [4]).int 25)) + JC BinOp.xor IntKind.u32 (JC BinOp.and IntKind.u32 (Jm (PV.ar 112 v8) [4]).int (Jm (PV.ar 112 v8) [5]).int) (JC BinOp.and IntKind.u32 (JC BinOp.xor IntKind.u32 (Int.ofNat (2 ^ IntKind.u32.bits - Nat.succ 0)) (Jm (PV.ar 112 v8) [4]).int) (Jm (PV.ar 112 v8) [6]).int)) + (Jm (PV.ar 118 v4) [v2.toNat]).int) + (Jm (PV.ar 118 v7) [v2.toNat]).int)))), .sc (.int .u32 (Jm (PV.ar 112 v8) [4]).int), .sc (.int .u32 (Jm (PV.ar 112 v8) [5]).int), .sc (.int .u32 (Jm (PV.ar 112 v8) [6]).int)]) else none else none else none else none else none else none else none else none else none else none else none else none else none else none else none else none else none else none else none else none else none else none else none else none else k0 v0 v1 v3 v4 v5 v6 v7 v8
def ZT (f : Nat) (k0 : Nat → Int → List
  PV → List PV → List PV → List PV → List PV → List PV → Option Res) : Nat → Nat → Int → Int → List PV → List PV → List PV → List PV → List PV → List PV → Option Res
  | 0, _, _, _, _, _, _, _, _, _ => none
  | n + 1, v0, v1, v2, v3, v4, v5, v6, v7, v8 => VG f (ZT f k0 n) k0 v0 v1 v2 v3 v4 v5 v6 v7 v8
theorem Jmx (f : Nat) (k : Kont) (n : Nat) (v0 : Nat) (v1 : Int) (v2 : Int) (v3 : List PV) (v4 : List PV) (v5 : List PV) (v6 : List PV) (v7 : List PV) (v8 : List PV) : Jo tau 0 XW (fun s k => ev tau F28 0 0 Jb4 (JeD ) s k) (n + 1) (Jd XW N28 [.ptr 4464 [], .ptr 4465 [], .ptr 4466 [], .ow 5 4467 [] 0 v0 none, .ptr 4468 [], .sc (.int .i64 v1), .ptr 4469 [], .sc (.int .i64 v2)] [(4464, .box false 37 (PV.ar 37 v3)), (4465, .box false 118 (PV.ar 118 v4)), (4466, .box false 112 (PV.ar 112 v5)), (4467, .vec false 5 false v6), (4468, .box false 118 (PV.ar 118 v7)), (4469, .box false 112 (PV.ar 112 v8))]) (Jy tau 0 YU k) = VG f (fun v0 v1 v2 v3 v4 v5 v6 v7 v8 => Jo tau 0 XW (fun s k => ev tau F28 0 0 Jb4 (JeD ) s k) n (Jd XW N28 [.ptr 4464 [], .ptr 4465 [], .ptr 4466 [], .ow 5 4467 [] 0 v0 none, .ptr 4468 [], .sc (.int .i64 v1), .ptr 4469 [], .sc (.int .i64 v2)] [(4464, .box false 37 (PV.ar 37 v3)), (4465, .box false 118 (PV.ar 118 v4)), (4466, .box false 112 (PV.ar 112 v5)), (4467, .vec false 5 false v6), (4468, .box false 118 (PV.ar 118 v7)), (4469, .box false 112 (PV.ar 112 v8))]) (Jy tau 0 YU k)) (fun x0 x1 x2 x3 x4 x5 x6 x7 => k (Ex.exit 10) (Jd YU N28 [.ptr 4464 [], .ptr 4465 [], .ptr 4466 [], .ow 5 4467 [] 0 x0 none, .ptr 4468 [], .sc (.int .i64 x1), .ptr 4469 []] [(4464, .box false 37 (PV.ar 37 x2)), (4465, .box false 118 (PV.ar 118 x3)), (4466, .box false 112 (PV.ar 112 x4)), (4467, .vec false 5 false x5), (4468, .box false 118 (PV.ar 118 x6)), (4469, .box false 112 (PV.ar 112 x7))])) v0 v1 v2 v3 v4 v5 v6 v7 v8 := by kernel_rfl
theorem Jhx (f : Nat) (k : Kont) : ∀ (n : Nat) (v0 : Nat) (v1 : Int) (v2 : Int) (v3 : List PV) (v4 : List PV) (v5 : List PV) (v6 : List PV) (v7 : List PV) (v8 : List PV), Jo tau 0 XW (fun s k => ev tau F28 0 0 Jb4 (JeD ) s k) n (Jd XW N28 [.ptr 4464 [], .ptr 4465 [], .ptr 4466 [], .ow 5 4467 [] 0 v0 none, .ptr 4468 [], .sc (.int .i64 v1), .ptr 4469 [], .sc (.int .i64 v2)] [(4464, .box false 37 (PV.ar 37 v3)), (4465, .box false 118 (PV.ar 118 v4)), (4466, .box false 112 (PV.ar 112 v5)), (4467, .vec false 5 false v6), (4468, .box false 118 (PV.ar 118 v7)), (4469, .box false 112 (PV.ar 112 v8))]) (Jy tau 0 YU k) = ZT f (fun x0 x1 x2 x3 x4 x5 x6 x7 => k (Ex.exit 10) (Jd YU N28 [.ptr 4464 [], .ptr 4465 [], .ptr 4466 [], .ow 5 4467 [] 0 x0 none, .ptr 4468 [], .sc (.int .i64 x1), .ptr 4469 []] [(4464, .box false 37 (PV.ar 37 x2)), (4465, .box false 118 (PV.ar 118 x3)), (4466, .box false 112 (PV.ar 112 x4)), (4467, .vec false 5 false x5), (4468, .box false 118 (PV.ar 118 x6)), (4469, .box false 112 (PV.ar 112 x7))])) n v0 v1 v2 v3 v4 v5 v6 v7 v8 | 0, _, _, _, _, _, _, _, _, _ => rfl | n + 1, v0, v1, v2, v3, v4, v5, v6, v7, v8 => (Jmx f k n v0 v1 v2 v3 v4 v5 v6 v7 v8).trans (congrArg (fun r => VG f r (fun x0 x1 x2 x3 x4 x5 x6 x7 => k (Ex.exit 10) (Jd YU N28 [.ptr 4464 [], .ptr 4465 [], .ptr 4466 [], .ow 5 4467 [] 0 x0 none, .ptr 4468 [], .sc (.int .i64 x1), .ptr 4469 []] [(4464, .box false 37 (PV.ar 37 x2)), (4465, .box false 118 (PV.ar 118 x3)), (4466, .box false 112 (PV.ar 112 x4)), (4467, .vec false 5 false x5), (4468, .box false 118 (PV.ar 118 x6)), (4469, .box false 112 (PV.ar 112 x7))])) v0 v1 v2 v3 v4 v5 v6 v7 v8) (by funext v0 v1 v2 v3 v4 v5 v6 v7 v8; exact Jhx f k n v0 v1 v2 v3 v4 v5 v6 v7 v8))
def GJ (f : Nat) : List PV → List (Nat × Ent) → Kont → Option Res
  | [.ptr 4464 [], .ptr 4465 [], .ptr 4466 [], .ow 5 4467 [] 0 v0 none, .ptr 4468 [], .sc (.int .i64 v1), .ptr 4469 [],
  PV.sc
    (Value.int IntKind.i64
      v2)], [(4464, .box false 37 (PV.ar 37 v3)), (4465, .box false 118 (PV.ar 118 v4)), (4466, .box false 112 (PV.ar 112 v5)), (4467, .vec false 5 false v6),
  (4468, .box false 118 (PV.ar 118 v7)),
  (4469,
    Ent.box false 112
      (PV.ar 112
        v8))], k => ZT f (fun x0 x1 x2 x3 x4 x5 x6 x7 => k (Ex.exit
  10) (Jd YU N28 [.ptr 4464 [], .ptr 4465 [], .ptr 4466 [], .ow 5 4467 [] 0 x0 none, .ptr 4468 [], .sc (.int .i64 x1),
  PV.ptr 4469
    []] [(4464, .box false 37 (PV.ar 37 x2)), (4465, .box false 118 (PV.ar 118 x3)), (4466, .box false 112 (PV.ar 112 x4)), (4467, .vec false 5 false x5),
  (4468, .box false 118 (PV.ar 118 x6)), (4469, .box false 112 (PV.ar 112 x7))])) f v0 v1 v2 v3 v4 v5 v6 v7 v8
  | _, _, _ => none
theorem Jq0 (f : Nat) : Jg Jb4 JeD = [] := by kernel_rfl
theorem JuJ (f : Nat) : (Item.l Jb4 XW N28 (GJ f)).Ok tau Try.prog 0 := JJ Jr XR Js (x := JeD) (nm2 := YU) (Jp _ _ (by rw [Jq0 f]; intro q hq; cases hq)) fun vs hp k res hr => by
  unfold GJ at hr
  split at hr
  · exact ⟨f, 0, (Jhx f _ f _ _ _ _ _ _ _ _ _ ).trans hr⟩
  · cases hr
def VH (f : Nat) (rc : Nat → Int → Int → List PV → List PV → List PV → List PV → List PV → List PV → Option Res) (k0 : Nat → Int → List PV → List PV → List PV → List PV → List PV → Option Res) (v0 : Nat) (v1 : Int) (v2 : Int) (v3 : List PV) (v4 : List PV) (v5 : List PV) (v6 : List PV) (v7 : List PV) (v8 : List PV) : Option Res := bif decide (v2 < 8) then bif decide (0 ≤ v2) && decide (v2 < zi 8) && true then bif PV.isInt IntKind.u32 (Jm (PV.ar 112 v5) [v2.toNat]) && true then bif decide (0 ≤ v2) && decide (v2 < zi 8) && true then bif PV.isInt IntKind.u32 (Jm (PV.ar 112 v8) [v2.toNat]) && true then bif decide (0 ≤ v2) && decide (v2 < zi 8) && true then rc v0 v1 (IntKind.i64.wrap (v2 + 1)) v3 v4 (v5.set v2.toNat (.sc (.int .u32 (IntKind.u32.wrap ((Jm (PV.ar 112 v5) [v2.toNat]).int + (Jm (PV.ar 112 v8) [v2.toNat]).int))))) v6 v7 v8 else none else none else none else none else none else k0 v0 v1 v3 v4 v5 v6 v7
def ZU (f : Nat) (k0 : Nat → Int → List PV → List PV → List PV → List PV → List PV → Option Res) : Nat → Nat → Int → Int → List PV → List PV → List PV → List PV → List PV → List PV → Option Res
  | 0, _, _, _, _, _, _, _, _, _ => none
  | n + 1, v0, v1, v2, v3, v4, v5, v6, v7, v8 => VH f (ZU f k0 n) k0 v0 v1 v2 v3 v4 v5 v6 v7 v8
theorem Jmy (f : Nat) (k : Kont) (n : Nat) (v0 : Nat) (v1 : Int) (v2 : Int) (v3 : List PV) (v4 : List PV) (v5 : List PV) (v6 : List PV) (v7 : List PV) (v8 : List PV) : Jo tau 0 XX (fun s k => ev tau F28 0 0 Jb5 (JeE ) s k) (n + 1) (Jd XX N28 [.ptr 4464 [], .ptr 4465 [], .ptr 4466 [], .ow 5 4467 [] 0 v0 none, .ptr 4468 [], .sc (.int .i64 v1), .ptr 4469 [], .sc (.int .i64 v2)] [(4464, .box false 37 (PV.ar 37 v3)), (4465, .box false 118 (PV.ar 118 v4)), (4466, .box false 112 (PV.ar 112 v5)), (4467, .vec false 5 false v6), (4468, .box false 118 (PV.ar 118 v7)), (4469, .box false 112 (PV.ar 112 v8))]) (Jy tau 0 YV k) = VH f (fun v0 v1 v2 v3 v4 v5 v6 v7 v8 => Jo tau 0 XX (fun s k => ev tau F28 0 0 Jb5 (JeE ) s k) n (Jd XX N28 [.ptr 4464 [], .ptr 4465 [], .ptr 4466 [], .ow 5 4467 [] 0 v0 none, .ptr 4468 [], .sc (.int .i64 v1), .ptr 4469 [], .sc (.int .i64 v2)] [(4464, .box false 37 (PV.ar 37 v3)), (4465, .box false 118 (PV.ar 118 v4)), (4466, .box false 112 (PV.ar 112 v5)), (4467, .vec false 5 false v6), (4468, .box false 118 (PV.ar 118 v7)), (4469, .box false 112 (PV.ar 112 v8))]) (Jy tau 0 YV k)) (fun x0 x1 x2 x3 x4 x5 x6 => k (Ex.exit 12) (Jd YV N28 [.ptr 4464 [], .ptr 4465 [], .ptr 4466 [], .ow 5 4467 [] 0 x0 none, .ptr 4468 [], .sc (.int .i64 x1)] [(4464, .box false 37 (PV.ar 37 x2)), (4465, .box false 118 (PV.ar 118 x3)), (4466, .box false 112 (PV.ar 112 x4)), (4467, .vec false 5 false x5), (4468, .box false 118 (PV.ar 118 x6))])) v0 v1 v2 v3 v4 v5 v6 v7 v8 := by kernel_rfl
theorem Jhy (f : Nat) (k : Kont) : ∀ (n : Nat) (v0 : Nat) (v1 : Int) (v2 : Int) (v3 : List PV) (v4 : List PV) (v5 : List PV) (v6 : List PV) (v7 : List PV) (v8 : List PV), Jo tau 0 XX (fun s k => ev tau F28 0 0 Jb5 (JeE ) s k) n (Jd XX N28 [.ptr 4464 [], .ptr 4465 [], .ptr 4466 [], .ow 5 4467 [] 0 v0 none, .ptr 4468 [], .sc (.int .i64 v1), .ptr 4469 [], .sc (.int .i64 v2)] [(4464, .box false 37 (PV.ar 37 v3)), (4465, .box false 118 (PV.ar 118 v4)), (4466, .box false 112 (PV.ar 112 v5)), (4467, .vec false 5 false v6), (4468, .box false 118 (PV.ar 118 v7)), (4469, .box false 112 (PV.ar 112 v8))]) (Jy tau 0 YV k) = ZU f (fun x0 x1 x2 x3 x4 x5 x6 => k (Ex.exit 12) (Jd YV N28 [.ptr 4464 [], .ptr 4465 [], .ptr 4466 [], .ow 5 4467 [] 0 x0 none, .ptr 4468 [], .sc (.int .i64 x1)] [(4464, .box false 37 (PV.ar 37 x2)), (4465, .box false 118 (PV.ar 118 x3)), (4466, .box false 112 (PV.ar 112 x4)), (4467, .vec false 5 false x5), (4468, .box false 118 (PV.ar 118 x6))])) n v0 v1 v2 v3 v4 v5 v6 v7 v8 | 0, _, _, _, _, _, _, _, _, _ => rfl | n + 1, v0, v1, v2, v3, v4, v5, v6, v7, v8 => (Jmy f k n v0 v1 v2 v3 v4 v5 v6 v7 v8).trans (congrArg (fun r => VH f r (fun x0 x1 x2 x3 x4 x5 x6 => k (Ex.exit 12) (Jd YV N28 [.ptr 4464 [], .ptr 4465 [], .ptr 4466 [], .ow 5 4467 [] 0 x0 none, .ptr 4468 [], .sc (.int .i64 x1)] [(4464, .box false 37 (PV.ar 37 x2)), (4465, .box false 118 (PV.ar 118 x3)), (4466, .box false 112 (PV.ar 112 x4)), (4467, .vec false 5 false x5), (4468, .box false 118 (PV.ar 118 x6))])) v0 v1 v2 v3 v4 v5 v6 v7 v8) (by funext v0 v1 v2 v3 v4 v5 v6 v7 v8; exact Jhy f k n v0 v1 v2 v3 v4 v5 v6 v7 v8))
def GK (f : Nat) : List PV → List (Nat × Ent) → Kont → Option Res
  | [.ptr 4464 [], .ptr 4465 [], .ptr 4466 [], .ow 5 4467 [] 0 v0 none, .ptr 4468 [], .sc (.int .i64 v1), .ptr 4469 [],
  PV.sc
    (Value.int IntKind.i64
      v2)], [(4464, .box false 37 (PV.ar 37 v3)), (4465, .box false 118 (PV.ar 118 v4)), (4466, .box false 112 (PV.ar 112 v5)), (4467, .vec false 5 false v6),
  (4468, .box false 118 (PV.ar 118 v7)),
  (4469,
    Ent.box false 112
      (PV.ar 112
        v8))], k => ZU f (fun x0 x1 x2 x3 x4 x5 x6 => k (Ex.exit
  12) (Jd YV N28 [.ptr 4464 [], .ptr 4465 [], .ptr 4466 [], .ow 5 4467 [] 0 x0 none, .ptr 4468 [],
  PV.sc
    (Value.int IntKind.i64
      x1)] [(4464, .box false 37 (PV.ar 37 x2)), (4465, .box false 118 (PV.ar 118 x3)), (4466, .box false 112 (PV.ar 112 x4)), (4467, .vec false 5 false x5),
  (4468, .box false 118 (PV.ar 118 x6))])) f v0 v1 v2 v3 v4 v5 v6 v7 v8
  | _, _, _ => none
theorem Jq1 (f : Nat) : Jg Jb5 JeE = [] := by kernel_rfl
theorem JuK (f : Nat) : (Item.l Jb5 XX N28 (GK f)).Ok tau Try.prog 0 := JJ Jr XR Js (x := JeE) (nm2 := YV) (Jp _ _ (by rw [Jq1 f]; intro q hq; cases hq)) fun vs hp k res hr => by
  unfold GK at hr
  split at hr
  · exact ⟨f, 0, (Jhy f _ f _ _ _ _ _ _ _ _ _ ).trans hr⟩
  · cases hr
def VI (f : Nat) (rc : Nat → Int → List PV → List PV → List PV → List PV → List PV → Option Res) (k0 : List PV → List PV → Option Res) (v0 : Nat) (v1 : Int) (v2 : List PV) (v3 : List PV) (v4 : List PV) (v5 : List PV) (v6 : List PV) : Option Res := bif decide (v1 < zi v0) then ZR f (fun x0_2 x1_2 x2_2 x3_2 x4_2 x5_2 x6_2 => ZS f (fun x0_3 x1_3 x2_3 x3_3 x4_3 x5_3 x6_3 => ZT f (fun x0_4 x1_4 x2_4 x3_4 x4_4 x5_4 x6_4 x7_4 => ZU f (fun x0_5 x1_5 x2_5 x3_5 x4_5 x5_5 x6_5 => rc x0_5 (IntKind.i64.wrap (x1_5 + 64)) x2_5 x3_5 x4_5 x5_5 x6_5) f x0_4 x1_4 (0) x2_4 x3_4 x4_4 x5_4 x6_4 x7_4) f x0_3 x1_3 (0) x2_3 x3_3 x4_3 x5_3 x6_3 x4_3) f x0_2 x1_2 (16) x2_2 x3_2 x4_2 x5_2 x6_2) f v0 v1 (0) v2 v3 v4 v5 v6 else k0 v2 v4
def ZV (f : Nat) (k0 : List PV → List PV → Option Res) : Nat → Nat → Int → List PV → List PV → List PV → List PV → List PV → Option Res
  | 0, _, _, _, _, _, _, _ => none
  | n + 1, v0, v1, v2, v3, v4, v5, v6 => VI f (ZV f k0 n) k0 v0 v1 v2 v3 v4 v5 v6
theorem Jmz (f : Nat) (k : Kont) (n : Nat) (v0 : Nat) (v1 : Int) (v2 : List PV) (v3 : List PV) (v4 : List PV) (v5 : List PV) (v6 : List PV) : Jo tau 0 XY (fun s k => ev tau F28 0 0 Jb6 (JeF (GH f) (GI f) (GJ f) (GK f)) s k) (n + 1) (Jd XY N28 [.ptr 4464 [], .ptr 4465 [], .ptr 4466 [], .ow 5 4467 [] 0 v0 none, .ptr 4468 [], .sc (.int .i64 v1)] [(4464, .box false 37 (PV.ar 37 v2)), (4465, .box false 118 (PV.ar 118 v3)), (4466, .box false 112 (PV.ar 112 v4)), (4467, .vec false 5 false v5), (4468, .box false 118 (PV.ar 118 v6))]) (Jy tau 0 YW k) = VI f (fun v0 v1 v2 v3 v4 v5 v6 => Jo tau 0 XY (fun s k => ev tau F28 0 0 Jb6 (JeF (GH f) (GI f) (GJ f) (GK f)) s k) n (Jd XY N28 [.ptr 4464 [], .ptr 4465 [], .ptr 4466 [], .ow 5 4467 [] 0 v0 none, .ptr 4468 [], .sc (.int .i64 v1)] [(4464, .box false 37 (PV.ar 37 v2)), (4465, .box false 118 (PV.ar 118 v3)), (4466, .box false 112 (PV.ar 112 v4)), (4467, .vec false 5 false v5), (4468, .box false 118 (PV.ar 118 v6))]) (Jy tau 0 YW k)) (fun x0 x1 => k (Ex.exit 4) (Jd YW N28 [.ptr 4464 [], .ptr 4465 []] [(4464, .box false 37 (PV.ar 37 x0)), (4465, .box false 112 (PV.ar 112 x1))])) v0 v1 v2 v3 v4 v5 v6 := by kernel_rfl
theorem Jhz (f : Nat) (k : Kont) : ∀ (n : Nat) (v0 : Nat) (v1 : Int) (v2 : List PV) (v3 : List PV) (v4 : List PV) (v5 : List PV) (v6 : List PV), Jo tau 0 XY (fun s k => ev tau F28 0 0 Jb6 (JeF (GH f) (GI f) (GJ f) (GK f)) s k) n (Jd XY N28 [.ptr 4464 [], .ptr 4465 [], .ptr 4466 [], .ow 5 4467 [] 0 v0 none, .ptr 4468 [], .sc (.int .i64 v1)] [(4464, .box false 37 (PV.ar 37 v2)), (4465, .box false 118 (PV.ar 118 v3)), (4466, .box false 112 (PV.ar 112 v4)), (4467, .vec false 5 false v5), (4468, .box false 118 (PV.ar 118 v6))]) (Jy tau 0 YW k) = ZV f (fun x0 x1 => k (Ex.exit 4) (Jd YW N28 [.ptr 4464 [], .ptr 4465 []] [(4464, .box false 37 (PV.ar 37 x0)), (4465, .box false 112 (PV.ar 112 x1))])) n v0 v1 v2 v3 v4 v5 v6 | 0, _, _, _, _, _, _, _ => rfl | n + 1, v0, v1, v2, v3, v4, v5, v6 => (Jmz f k n v0 v1 v2 v3 v4 v5 v6).trans (congrArg (fun r => VI f r (fun x0 x1 => k (Ex.exit 4) (Jd YW N28 [.ptr 4464 [], .ptr 4465 []] [(4464, .box false 37 (PV.ar 37 x0)), (4465, .box false 112 (PV.ar 112 x1))])) v0 v1 v2 v3 v4 v5 v6) (by funext v0 v1 v2 v3 v4 v5 v6; exact Jhz f k n v0 v1 v2 v3 v4 v5 v6))
def JaS (f : Nat) : List PV → List (Nat × Ent) → Kont → Option Res
  | [.ptr 4464 [], .ptr 4465 [], .ptr 4466 [], .ow 5 4467 [] 0 v0 none, .ptr 4468 [],
  PV.sc
    (Value.int IntKind.i64
      v1)], [(4464, .box false 37 (PV.ar 37 v2)), (4465, .box false 118 (PV.ar 118 v3)), (4466, .box false 112 (PV.ar 112 v4)), (4467, .vec false 5 false v5),
  (4468,
    Ent.box false 118
      (PV.ar 118
        v6))], k => ZV f (fun x0 x1 => k (Ex.exit
  4) (Jd YW N28 [.ptr 4464 [], .ptr 4465 []] [(4464, .box false 37 (PV.ar 37 x0)), (4465, .box false 112 (PV.ar 112 x1))])) f v0 v1 v2 v3 v4 v5 v6
  | _, _, _ => none
theorem Jq2 (f : Nat) : Jg Jb6 (JeF (GH f) (GI f) (GJ f) (GK f)) = [.l Jb2 XU N28 (GH f), .l Jb3 XV N28 (GI f), .l Jb4 XW N28 (GJ f), .l Jb5 XX N28 (GK f)] := by kernel_rfl
theorem JuL (f : Nat) : (Item.l Jb6 XY N28 (JaS f)).Ok tau Try.prog 0 := JJ Jr XR Js (x := (JeF (GH f) (GI f) (GJ f) (GK f))) (nm2 := YW) (Jp _ _ (by rw [Jq2 f]; simp only [List.forall_mem_cons, List.not_mem_nil, false_implies, implies_true, and_true]; exact ⟨JuH f, JuI f, JuJ f, JuK f⟩)) fun vs hp k res hr => by
  unfold JaS at hr
  split at hr
  · exact ⟨f, 0, (Jhz f _ f _ _ _ _ _ _ _ ).trans hr⟩
  · cases hr
def VJ (f : Nat) (rc : Int → List PV → List PV → List PV → Option Res) (k0 : List PV → List PV → Option Res) (v0 : Int) (v1 : List PV) (v2 : List PV) (v3 : List PV) : Option Res := bif decide (v0 < 8) then bif decide (0 ≤ v0) && decide (v0 < zi 8) && true then bif PV.isInt IntKind.u32 (Jm (PV.ar 112 v2) [v0.toNat]) && true then bif decide (0 ≤ v0) && decide (v0 < zi 8) && true then bif PV.isInt IntKind.u32 (Jm (PV.ar 112 v2) [v0.toNat]) && true then bif decide (0 ≤ v0) && decide (v0 < zi 8) && true then bif PV.isInt IntKind.u32 (Jm (PV.ar 112 v2) [v0.toNat]) && true then bif decide (0 ≤ v0) && decide (v0 < zi 8) && true then bif PV.isInt IntKind.u32 (Jm (PV.ar 112 v2) [v0.toNat]) && true then bif decide (0 ≤ IntKind.i64.wrap (4 * v0)) && decide (IntKind.i64.wrap (4 * v0) < zi 32) && true then bif decide (0 ≤ IntKind.i64.wrap (IntKind.i64.wrap (4 * v0) + 1)) && decide (IntKind.i64.wrap (IntKind.i64.wrap (4 * v0) + 1) < zi 32) && true then bif decide (0 ≤ IntKind.i64.wrap (IntKind.i64.wrap (4 * v0) + 2)) && decide (IntKind.i64.wrap (IntKind.i64.wrap (4 * v0) + 2) < zi 32) && true then bif decide (0 ≤ IntKind.i64.wrap (IntKind.i64.wrap (4 * v0) + 3)) && decide (IntKind.i64.wrap (IntKind.i64.wrap (4 * v0) + 3) < zi 32) && true then rc (IntKind.i64.wrap (v0 + 1)) v1 v2 ((((v3.set (IntKind.i64.wrap (4 * v0)).toNat (.sc (.int .u8 (IntKind.u8.wrap (Jx IntKind.u32 (Jm (PV.ar 112 v2) [v0.toNat]).int 24))))).set (IntKind.i64.wrap (IntKind.i64.wrap (4 * v0) + 1)).toNat (.sc (.int .u8 (IntKind.u8.wrap (Jx IntKind.u32 (Jm (PV.ar 112 v2) [v0.toNat]).int 16))))).set (IntKind.i64.wrap (IntKind.i64.wrap (4 * v0) + 2)).toNat (.sc (.int .u8 (IntKind.u8.wrap (Jx IntKind.u32 (Jm (PV.ar 112 v2) [v0.toNat]).int 8))))).set (IntKind.i64.wrap (IntKind.i64.wrap (4 * v0) + 3)).toNat (.sc (.int .u8 (IntKind.u8.wrap (Jm (PV.ar 112 v2) [v0.toNat]).int)))) else none else none else none else none else none else none else none else none else none else none else none else none else k0 v1 v3
def ZW (f : Nat) (k0 : List PV → List PV → Option Res) : Nat → Int → List PV → List PV → List PV → Option Res
  | 0, _, _, _, _ => none
  | n + 1, v0, v1, v2, v3 => VJ f (ZW f k0 n) k0 v0 v1 v2 v3
theorem JmA (f : Nat) (k : Kont) (n : Nat) (v0 : Int) (v1 : List PV) (v2 : List PV) (v3 : List PV) : Jo tau 0 XZ (fun s k => ev tau F28 0 0 Jb7 (JeG ) s k) (n + 1) (Jd XZ N28 [.ptr 4464 [], .ptr 4465 [], .ptr 4466 [], .sc (.int .i64 v0)] [(4464, .box false 37 (PV.ar 37 v1)), (4465, .box false 112 (PV.ar 112 v2)), (4466, .box false 37 (PV.ar 37 v3))]) (Jy tau 0 YX k) = VJ f (fun v0 v1 v2 v3 => Jo tau 0 XZ (fun s k => ev tau F28 0 0 Jb7 (JeG ) s k) n (Jd XZ N28 [.ptr 4464 [], .ptr 4465 [], .ptr 4466 [], .sc (.int .i64 v0)] [(4464, .box false 37 (PV.ar 37 v1)), (4465, .box false 112 (PV.ar 112 v2)), (4466, .box false 37 (PV.ar 37 v3))]) (Jy tau 0 YX k)) (fun x0 x1 => k (Ex.exit 14) (Jd YX N28 [.ptr 4464 [], .ptr 4465 []] [(4464, .box false 37 (PV.ar 37 x0)), (4465, .box false 37 (PV.ar 37 x1))])) v0 v1 v2 v3 := by kernel_rfl
theorem JhA (f : Nat) (k : Kont) : ∀ (n : Nat) (v0 : Int) (v1 : List PV) (v2 : List PV) (v3 : List PV), Jo tau 0 XZ (fun s k => ev tau F28 0 0 Jb7 (JeG ) s k) n (Jd XZ N28 [.ptr 4464 [], .ptr 4465 [], .ptr 4466 [], .sc (.int .i64 v0)] [(4464, .box false 37 (PV.ar 37 v1)), (4465, .box false 112 (PV.ar 112 v2)), (4466, .box false 37 (PV.ar 37 v3))]) (Jy tau 0 YX k) = ZW f (fun x0 x1 => k (Ex.exit 14) (Jd YX N28 [.ptr 4464 [], .ptr 4465 []] [(4464, .box false 37 (PV.ar 37 x0)), (4465, .box false 37 (PV.ar 37 x1))])) n v0 v1 v2 v3 | 0, _, _, _, _ => rfl | n + 1, v0, v1, v2, v3 => (JmA f k n v0 v1 v2 v3).trans (congrArg (fun r => VJ f r (fun x0 x1 => k (Ex.exit 14) (Jd YX N28 [.ptr 4464 [], .ptr 4465 []] [(4464, .box false 37 (PV.ar 37 x0)), (4465, .box false 37 (PV.ar 37 x1))])) v0 v1 v2 v3) (by funext v0 v1 v2 v3; exact JhA f k n v0 v1 v2 v3))
def JaT (f : Nat) : List PV → List (Nat × Ent) → Kont → Option Res
  | [.ptr 4464 [], .ptr 4465 [], .ptr 4466 [],
  PV.sc
    (Value.int IntKind.i64
      v0)], [(4464, .box false 37 (PV.ar 37 v1)), (4465, .box false 112 (PV.ar 112 v2)),
  (4466,
    Ent.box false 37
      (PV.ar 37
        v3))], k => ZW f (fun x0 x1 => k (Ex.exit
  14) (Jd YX N28 [.ptr 4464 [], .ptr 4465 []] [(4464, .box false 37 (PV.ar 37 x0)), (4465, .box false 37 (PV.ar 37 x1))])) f v0 v1 v2 v3
  | _, _, _ => none
theorem Jq3 (f : Nat) : Jg Jb7 JeG = [] := by kernel_rfl
theorem JuM (f : Nat) : (Item.l Jb7 XZ N28 (JaT f)).Ok tau Try.prog 0 := JJ Jr XR Js (x := JeG) (nm2 := YX) (Jp _ _ (by rw [Jq3 f]; intro q hq; cases hq)) fun vs hp k res hr => by
  unfold JaT at hr
  split at hr
  · exact ⟨f, 0, (JhA f _ f _ _ _ _ ).trans hr⟩
  · cases hr
def g28 (f : Nat) (nl : Bool) (fl : Bool) (b : List PV) (k : Res → Option Res) : Option Res := bif Jj (0 + b.length) 1 && true then bif Jj (0 + b.length + 1) 1 && true then ZP f (fun x0_0 x1_0 x2_0 x3_0 x4_0 x5_0 x6_0 x7_0 => ZQ f (fun x0_1 x1_1 x2_1 x3_1 x4_1 => ZV f (fun x0_6 x1_6 => ZW f (fun x0_7 x1_7 => k (Res.mk (.ar 37 x1_7) [] [])) f (0) x0_6 x1_6 ([.sc (.int .u8 0), .sc (.int .u8 0), .sc (.int .u8 0), .sc (.int .u8 0), .sc (.int .u8 0), .sc (.int .u8 0), .sc (.int .u8 0), .sc (.int .u8 0), .sc (.int .u8 0), .sc (.int .u8 0), .sc (.int .u8 0), .sc (.int .u8 0), .sc (.int .u8 0), .sc (.int .u8 0), .sc (.int .u8 0), .sc (.int .u8 0), .sc (.int .u8 0), .sc (.int .u8 0), .sc (.int .u8 0), .sc (.int .u8 0), .sc (.int .u8 0), .sc (.int .u8 0), .sc (.int .u8 0), .sc (.int .u8 0), .sc (.int .u8 0), .sc (.int .u8 0), .sc (.int .u8 0), .sc (.int .u8 0), .sc (.int .u8 0), .sc (.int .u8 0), .sc (.int .u8 0), .sc (.int .u8 0)])) f x0_1 (0) x1_1 x2_1 x3_1 x4_1 ([.sc (.int .u32 0), .sc (.int .u32 0), .sc (.int .u32 0), .sc (.int .u32 0), .sc (.int .u32 0), .sc (.int .u32 0), .sc (.int .u32 0), .sc (.int .u32 0), .sc (.int .u32 0), .sc (.int .u32 0), .sc (.int .u32 0), .sc (.int .u32 0), .sc (.int .u32 0), .sc (.int .u32 0), .sc (.int .u32 0), .sc (.int .u32 0), .sc (.int .u32 0), .sc (.int .u32 0), .sc (.int .u32 0), .sc (.int .u32 0), .sc (.int .u32 0), .sc (.int .u32 0), .sc (.int .u32 0), .sc (.int .u32 0), .sc (.int .u32 0), .sc (.int .u32 0), .sc (.int .u32 0), .sc (.int .u32 0), .sc (.int .u32 0), .sc (.int .u32 0), .sc (.int .u32 0), .sc (.int .u32 0), .sc (.int .u32 0), .sc (.int .u32 0), .sc (.int .u32 0), .sc (.int .u32 0), .sc (.int .u32 0), .sc (.int .u32 0), .sc (.int .u32 0), .sc (.int .u32 0), .sc (.int .u32 0), .sc (.int .u32 0), .sc (.int .u32 0), .sc (.int .u32 0), .sc (.int .u32 0), .sc (.int .u32 0), .sc (.int .u32 0), .sc (.int .u32 0), .sc (.int .u32 0), .sc (.int .u32 0), .sc (.int .u32 0), .sc (.int .u32 0), .sc (.int .u32 0), .sc (.int .u32 0), .sc (.int .u32 0), .sc (.int .u32 0), .sc (.int .u32 0), .sc (.int .u32 0), .sc (.int .u32 0), .sc (.int .u32 0), .sc (.int .u32 0), .sc (.int .u32 0), .sc (.int .u32 0), .sc (.int .u32 0)])) f x3_0 (IntKind.u64.wrap (IntKind.u64.wrap (zi x2_0.length) * 8)) (7) x4_0 x5_0 x6_0 x7_0) f nl fl b (0 + b.length + 1) ([.sc (.int .u8 0), .sc (.int .u8 0), .sc (.int .u8 0), .sc (.int .u8 0), .sc (.int .u8 0), .sc (.int .u8 0), .sc (.int .u8 0), .sc (.int .u8 0), .sc (.int .u8 0), .sc (.int .u8 0), .sc (.int .u8 0), .sc (.int .u8 0), .sc (.int .u8 0), .sc (.int .u8 0), .sc (.int .u8 0), .sc (.int .u8 0), .sc (.int .u8 0), .sc (.int .u8 0), .sc (.int .u8 0), .sc (.int .u8 0), .sc (.int .u8 0), .sc (.int .u8 0), .sc (.int .u8 0), .sc (.int .u8 0), .sc (.int .u8 0), .sc (.int .u8 0), .sc (.int .u8 0), .sc (.int .u8 0), .sc (.int .u8 0), .sc (.int .u8 0), .sc (.int .u8 0), .sc (.int .u8 0)]) ([.sc (.int .u32 1116352408), .sc (.int .u32 1899447441), .sc (.int .u32 3049323471), .sc (.int .u32 3921009573), .sc (.int .u32 961987163), .sc (.int .u32 1508970993), .sc (.int .u32 2453635748), .sc (.int .u32 2870763221), .sc (.int .u32 3624381080), .sc (.int .u32 310598401), .sc (.int .u32 607225278), .sc (.int .u32 1426881987), .sc (.int .u32 1925078388), .sc (.int .u32 2162078206), .sc (.int .u32 2614888103), .sc (.int .u32 3248222580), .sc (.int .u32 3835390401), .sc (.int .u32 4022224774), .sc (.int .u32 264347078), .sc (.int .u32 604807628), .sc (.int .u32 770255983), .sc (.int .u32 1249150122), .sc (.int .u32 1555081692), .sc (.int .u32 1996064986), .sc (.int .u32 2554220882), .sc (.int .u32 2821834349), .sc (.int .u32 2952996808), .sc (.int .u32 3210313671), .sc (.int .u32 3336571891), .sc (.int .u32 3584528711), .sc (.int .u32 113926993), .sc (.int .u32 338241895), .sc (.int .u32 666307205), .sc (.int .u32 773529912), .sc (.int .u32 1294757372), .sc (.int .u32 1396182291), .sc (.int .u32 1695183700), .sc (.int .u32 1986661051), .sc (.int .u32 2177026350), .sc (.int .u32 2456956037), .sc (.int .u32 2730485921), .sc (.int .u32 2820302411), .sc (.int .u32 3259730800), .sc (.int .u32 3345764771), .sc (.int .u32 3516065817), .sc (.int .u32 3600352804), .sc (.int .u32 4094571909), .sc (.int .u32 275423344), .sc (.int .u32 430227734), .sc (.int .u32 506948616), .sc (.int .u32 659060556), .sc (.int .u32 883997877), .sc (.int .u32 958139571), .sc (.int .u32 1322822218), .sc (.int .u32 1537002063), .sc (.int .u32 1747873779), .sc (.int .u32 1955562222), .sc (.int .u32 2024104815), .sc (.int .u32 2227730452), .sc (.int .u32 2361852424), .sc (.int .u32 2428436474), .sc (.int .u32 2756734187), .sc (.int .u32 3204031479), .sc (.int .u32 3329325298)]) ([.sc (.int .u32 1779033703), .sc (.int .u32 3144134277), .sc (.int .u32 1013904242), .sc (.int .u32 2773480762), .sc (.int .u32 1359893119), .sc (.int .u32 2600822924), .sc (.int .u32 528734635), .sc (.int .u32 1541459225)]) (List.take (0 + b.length) ([] ++ b) ++ [.sc (.int .u8 128)]) else none else none
theorem e28 (f : Nat) (nl : Bool) (fl : Bool) (b : List PV) (k : Res → Option Res) : JR tau F28 Try.f28 (Try.f28.body.get!) (Jms (JaQ f) (JaR f) (JaS f) (JaT f)) [] 0 [.ro 5 nl fl b] [] k = g28 f nl fl b k := by kernel_rfl
theorem Jx2 (f : Nat) : Jg (Try.f28.body.get!) (Jms (JaQ f) (JaR f) (JaS f) (JaT f)) = [.l Jb0 XS N28 (JaQ f), .l Jb1 XT N28 (JaR f), .l Jb6 XY N28 (JaS f), .l Jb7 XZ N28 (JaT f)] := by kernel_rfl
theorem Jx3 (f : Nat) : ∀ q ∈ Jg (Try.f28.body.get!) (Jms (JaQ f) (JaR f) (JaS f) (JaT f)), q.Ok tau Try.prog 0 := by
  rw [Jx2 f]; simp only [List.forall_mem_cons, List.not_mem_nil, false_implies, implies_true, and_true]; exact ⟨JuF f, JuG f, JuL f, JuM f⟩
theorem JuN : Try.prog.funcs[28]? = some Try.f28 := by kernel_rfl
theorem JuO : Try.f28.body = some (Try.f28.body.get!) := by kernel_rfl
theorem JuP : Enters Try.prog 28 := enters_of JuN (by kernel_rfl) JuO
-- FN ref2.Sum
theorem Jkg (v : PV) : Jm v [] = v := rfl
theorem WN {R : List Int} (h : R.length = 8) (j : Nat) (hj : j < 8) : (pu .u32 R).getD j .top = .sc (.int .u32 (R.getD j 0)) := Ys (by omega)
theorem JoD (f : Nat) (a b : Bool) (c x y w : List PV) (k0 : Bool → Bool → List PV → Nat → List PV → List PV → List PV → List PV → Option Res) : ∀ (d n : Nat) (L : List Int), zs L.length = d → d < n → L.length + d ≤ 140737488355200 →
    ZP f k0 n a b c L.length x y w (pu .u8 L) = k0 a b c (L.length + d) x y w (pu .u8 (L ++ List.replicate d 0))
  | 0, n + 1, L, hd, hn, hL => by
      simp only [ZP, VC, JaF]
      refine (JL (by simp [zs] at hd ⊢; omega)).trans ?_
      simp
  | d + 1, n + 1, L, hd, hn, hL => by
      have hlt : d + 1 < 64 := by rw [← hd]; unfold zs; omega
      have c3 : Jj (L.length + 1) 1 = true := by simp [Jj]; omega
      simp only [ZP, VC, JaF, c3, Bool.and_true, cond_true, WT]
      refine (Jb (by simp [zs] at hd ⊢; omega)).trans ?_
      rw [List.take_of_length_le (Nat.le_refl _)]
      have := JoD f a b c x y w k0 d n (L ++ [0]) (by simp [zs] at hd ⊢; omega) (by omega) (by simp; omega)
      simp only [List.length_append, List.length_cons, List.length_nil, Nat.zero_add, JN] at this
      refine this.trans ?_
      rw [show L.length + 1 + d = L.length + (d + 1) from by omega, List.replicate_succ]
      simp
def JmB (N : Int) (i : Nat) : Int := IntKind.u8.wrap (Jx .u64 N (56 - 8 * (i : Int)))
theorem JoE (f : Nat) (N : Int) (x y w : List PV) (k0 : Nat → List PV → List PV → List PV → List PV → Option Res) (L : List Int) (hL : L.length ≤ 140737488355300) : ∀ (d i n : Nat), i + d = 8 → d < n →
    ZQ f k0 n (L.length + i) N (7 - (i : Int)) x y w (pu .u8 (L ++ (List.range i).map (JmB N))) = k0 (L.length + 8) x y w (pu .u8 (L ++ (List.range 8).map (JmB N)))
  | 0, i, n + 1, h, hn => by
      obtain rfl : i = 8 := by omega
      simp only [ZQ, VD]
      exact JL (by decide)
  | d + 1, i, n + 1, h, hn => by
      have h1 : IntKind.i64.wrap (7 - (i : Int) - 1) = 7 - ((i + 1 : Nat) : Int) := by rw [wrap_i64 (by omega) (by omega)]; omega
      have h8 : IntKind.u64.wrap (7 - (i : Int)) = 7 - (i : Int) := by rw [QU]; omega
      have h9 : IntKind.u64.wrap (8 * (7 - (i : Int))) = 56 - 8 * (i : Int) := by rw [QU]; omega
      have c1 : decide (7 - (i : Int) ≥ 0) = true := by simp; omega
      have c2 : decide (0 ≤ 56 - 8 * (i : Int)) = true := by simp; omega
      have c3 : Jj (L.length + i + 1) 1 = true := by simp [Jj]; omega
      have hlen : (L ++ (List.range i).map (JmB N)).length = L.length + i := by simp
      simp only [ZQ, VD, h1, h8, h9, c1, c2, c3, Bool.and_true, cond_true, WT]
      rw [List.take_of_length_le (by omega)]
      have := JoE f N x y w k0 L hL d (i + 1) n (by omega) (by omega)
      rw [List.range_succ, List.map_append, ← List.append_assoc, JN] at this
      exact this
theorem G2 (P : List Int) (q j : Nat) (hj : j < 64) : ((P.drop (64 * q)).take 64).getD j 0 = P.getD (64 * q + j) 0 := by
  simp [List.getD_eq_getElem?_getD, hj, List.getElem?_drop]
theorem JoF (P : List Int) (q : Nat) (hq : 64 * q + 64 ≤ P.length) (hP : P.length ≤ 140737488356000) (T : List Int) (hT : T.length = 64) (f : Nat) (x y w : List PV) (k0 : Nat → Int → List PV → List PV → List PV → List PV → List PV → Option Res) : ∀ (d i n : Nat), i + d = 16 → d < n →
    ZR f k0 n P.length ((64 * q : Nat) : Int) (i : Int) x y w (pu .u8 P) (pu .u32 (Qp (Jbh ((P.drop (64 * q)).take 64)) T i)) = k0 P.length ((64 * q : Nat) : Int) x y w (pu .u8 P) (pu .u32 (Qp (Jbh ((P.drop (64 * q)).take 64)) T 16))
  | 0, i, n + 1, h, hn => by
      obtain rfl : i = 16 := by omega
      simp only [ZR, VE]
      exact JL (by decide)
  | d + 1, i, n + 1, h, hn => by
      have h4 : IntKind.i64.wrap (4 * (i : Int)) = ((4 * i : Nat) : Int) := by rw [wrap_i64 (by omega) (by omega)]; omega
      have h40 : IntKind.i64.wrap (((64 * q : Nat) : Int) + ((4 * i : Nat) : Int)) = ((64 * q + 4 * i : Nat) : Int) := by rw [wrap_i64 (by omega) (by omega)]; omega
      have h41 : IntKind.i64.wrap (((64 * q + 4 * i : Nat) : Int) + 1) = ((64 * q + (4 * i + 1) : Nat) : Int) := by rw [wrap_i64 (by omega) (by omega)]; omega
      have h42 : IntKind.i64.wrap (((64 * q + 4 * i : Nat) : Int) + 2) = ((64 * q + (4 * i + 2) : Nat) : Int) := by rw [wrap_i64 (by omega) (by omega)]; omega
      have h43 : IntKind.i64.wrap (((64 * q + 4 * i : Nat) : Int) + 3) = ((64 * q + (4 * i + 3) : Nat) : Int) := by rw [wrap_i64 (by omega) (by omega)]; omega
      have h5 : IntKind.i64.wrap ((i : Int) + 1) = ((i + 1 : Nat) : Int) := by rw [wrap_i64 (by omega) (by omega)]; omega
      simp only [ZR, VE, h4, h40, h41, h42, h43, h5, Int.toNat_natCast, Nat.zero_add, Jkg, zi]
      rw [JT (by omega), JT (by omega), JT (by omega), JT (by omega), Qk (by omega), Qk (by omega), Qk (by omega), Qk (by omega), Wk]
      refine (Jb (by simp; omega)).trans ?_
      refine (Jb (by simp only [Bool.and_true, Bool.and_eq_true, decide_eq_true_eq]; omega)).trans ?_
      refine (Jb rfl).trans ?_
      refine (Jb (by simp only [Bool.and_true, Bool.and_eq_true, decide_eq_true_eq]; omega)).trans ?_
      refine (Jb rfl).trans ?_
      refine (Jb (by simp only [Bool.and_true, Bool.and_eq_true, decide_eq_true_eq]; omega)).trans ?_
      refine (Jb rfl).trans ?_
      refine (Jb (by simp only [Bool.and_true, Bool.and_eq_true, decide_eq_true_eq]; omega)).trans ?_
      refine (Jb rfl).trans ?_
      refine (Jb (by simp only [Bool.and_true, Bool.and_eq_true, decide_eq_true_eq]; omega)).trans ?_
      have := JoF P q hq hP T hT f x y w k0 d (i + 1) n (by omega) (by omega)
      rw [← Ql _ T i (by omega), Jbh, G2 P q _ (by omega), G2 P q _ (by omega), G2 P q _ (by omega), G2 P q _ (by omega)] at this
      exact this
def Zz (bs T : List Int) (i : Nat) : List Int := Qi bs i ++ T.drop (16 + i)
theorem Jc3 (bs T : List Int) (hT : T.length = 64) (i : Nat) (h : i ≤ 48) : (Zz bs T i).length = 64 := by simp [Zz, JU, hT]; omega
theorem Zl (bs T : List Int) (i j : Nat) (h : j < 16 + i) : (Zz bs T i).getD j 0 = (Qi bs i).getD j 0 := by
  simp only [Zz, List.getD_eq_getElem?_getD]
  rw [List.getElem?_append_left (by rw [JU]; exact h)]
theorem JiC (bs T : List Int) (hT : T.length = 64) (i : Nat) (h : i < 48) (x : Int) : (Zz bs T i).set (i + 16) x = (Qi bs i ++ [x]) ++ T.drop (16 + (i + 1)) := by
  rw [Zz, List.set_append_right _ _ (by rw [JU]; omega), JU, List.drop_eq_getElem_cons (by omega), show i + 16 - (16 + i) = 0 from by omega, List.set_cons_zero]
  simp [Nat.add_assoc]
theorem JmC (w16 w15 w7 w2 : Int) : ww (ww (ww (sg1 w2 + w7) + sg0 w15) + w16) = JlO w16 w15 w7 w2 := by
  simp only [JlO, ww, Jd4]; omega
theorem JoG (bs T : List Int) (hT : T.length = 64) (f : Nat) (l : Nat) (p : Int) (x y w e : List PV) (k0 : Nat → Int → List PV → List PV → List PV → List PV → List PV → Option Res) : ∀ (d i n : Nat), i + d = 48 → d < n →
    ZS f k0 n l p ((i + 16 : Nat) : Int) x y w e (pu .u32 (Zz bs T i)) = k0 l p x y w e (pu .u32 (J8 bs))
  | 0, i, n + 1, h, hn => by
      obtain rfl : i = 48 := by omega
      simp only [ZS, VF]
      refine (JL (by decide)).trans ?_
      rw [Zz, List.drop_of_length_le (by omega), List.append_nil]; rfl
  | d + 1, i, n + 1, h, hn => by
      have h15 : IntKind.i64.wrap (((i + 16 : Nat) : Int) - 15) = ((i + 1 : Nat) : Int) := by rw [wrap_i64 (by omega) (by omega)]; omega
      have h2 : IntKind.i64.wrap (((i + 16 : Nat) : Int) - 2) = ((i + 14 : Nat) : Int) := by rw [wrap_i64 (by omega) (by omega)]; omega
      have h16 : IntKind.i64.wrap (((i + 16 : Nat) : Int) - 16) = ((i : Nat) : Int) := by rw [wrap_i64 (by omega) (by omega)]; omega
      have h7 : IntKind.i64.wrap (((i + 16 : Nat) : Int) - 7) = ((i + 9 : Nat) : Int) := by rw [wrap_i64 (by omega) (by omega)]; omega
      have h1 : IntKind.i64.wrap (((i + 16 : Nat) : Int) + 1) = ((i + 1 + 16 : Nat) : Int) := by rw [wrap_i64 (by omega) (by omega)]; omega
      have hl := Jc3 bs T hT i (by omega)
      simp only [ZS, VF, h15, h2, h16, h7, h1, Int.toNat_natCast, zi, Wp]
      rw [JT (by omega), JT (by omega), JT (by omega), JT (by omega), Qk (by omega), Qk (by omega), Qk (by omega), Qk (by omega), Wk]
      refine (Jb (by simp; omega)).trans ?_
      refine (Jb (by simp; omega)).trans ?_
      refine (Jb rfl).trans ?_
      refine (Jb (by simp; omega)).trans ?_
      refine (Jb rfl).trans ?_
      refine (Jb (by simp; omega)).trans ?_
      refine (Jb rfl).trans ?_
      refine (Jb (by simp; omega)).trans ?_
      refine (Jb rfl).trans ?_
      refine (Jb (by simp; omega)).trans ?_
      have := JoG bs T hT f l p x y w e k0 d (i + 1) n (by omega) (by omega)
      rw [Zl bs T i i (by omega), Zl bs T i (i + 1) (by omega), Zl bs T i (i + 9) (by omega), Zl bs T i (i + 14) (by omega), JiC bs T hT i (by omega)]
      have hn := JmC ((Qi bs i).getD i 0) ((Qi bs i).getD (i + 1) 0) ((Qi bs i).getD (i + 9) 0) ((Qi bs i).getD (i + 14) 0)
      rw [Zz, Qi, ← hn] at this
      exact this
theorem JoH (W s : List Int) (hW : W.length = 64) (hs : s.length = 8) (f : Nat) (l : Nat) (p : Int) (x w e : List PV) (k0 : Nat → Int → List PV → List PV → List PV → List PV → List PV → List PV → Option Res) : ∀ (d i n : Nat), i + d = 64 → d < n →
    ZT f k0 n l p (i : Int) x (pu .u32 kks) w e (pu .u32 W) (pu .u32 (Yz W s i)) = k0 l p x (pu .u32 kks) w e (pu .u32 W) (pu .u32 (Yz W s 64))
  | 0, i, n + 1, h, hn => by
      obtain rfl : i = 64 := by omega
      simp only [ZT, VG]
      exact JL (by decide)
  | d + 1, i, n + 1, h, hn => by
      have hl := W0 W s hs i
      have h1 : IntKind.i64.wrap ((i : Int) + 1) = ((i + 1 : Nat) : Int) := by rw [wrap_i64 (by omega) (by omega)]; omega
      have hk : (pu .u32 kks).getD i .top = .sc (.int .u32 (kks.getD i 0)) := Ys (by show i < 64; omega)
      have hw : (pu .u32 W).getD i .top = .sc (.int .u32 (W.getD i 0)) := Ys (by omega)
      have c1 : decide ((i : Int) < 64) = true := by simp; omega
      have c2 : decide (0 ≤ (i : Int)) = true := by simp
      have c3 : decide ((i : Int) < zi 64) = true := by simp; omega
      simp only [ZT, VG, Wp, Int.toNat_natCast, h1, hk, hw, c1, c2, c3, WN hl 0 (by omega), WN hl 1 (by omega), WN hl 2 (by omega), WN hl 3 (by omega), WN hl 4 (by omega), WN hl 5 (by omega), WN hl 6 (by omega), WN hl 7 (by omega), PV.isInt, PV.int, decide_true, Bool.and_true, cond_true]
      exact JoH W s hW hs f l p x w e k0 d (i + 1) n (by omega) (by omega)
theorem JoI (t s : List Int) (ht : t.length = 8) (hs : s.length = 8) (f : Nat) (l : Nat) (p : Int) (x y e u : List PV) (k0 : Nat → Int → List PV → List PV → List PV → List PV → List PV → Option Res) : ∀ (d i n : Nat), i + d = 8 → d < n →
    ZU f k0 n l p (i : Int) x y (pu .u32 (Qp (fun j => ww (t.getD j 0 + s.getD j 0)) s i)) e u (pu .u32 t) = k0 l p x y (pu .u32 ((List.range 8).map fun j => ww (t.getD j 0 + s.getD j 0))) e u
  | 0, i, n + 1, h, hn => by
      obtain rfl : i = 8 := by omega
      simp only [ZU, VH]
      refine (JL (by decide)).trans ?_
      have := QL (fun j => ww (t.getD j 0 + s.getD j 0)) s
      rw [hs] at this; rw [this]
  | d + 1, i, n + 1, h, hn => by
      have hl : (Qp (fun j => ww (t.getD j 0 + s.getD j 0)) s i).length = 8 := by rw [XG _ _ _ (by omega), hs]
      have h1 : IntKind.i64.wrap ((i : Int) + 1) = ((i + 1 : Nat) : Int) := by rw [wrap_i64 (by omega) (by omega)]; omega
      have c1 : decide ((i : Int) < 8) = true := by simp; omega
      have c2 : decide (0 ≤ (i : Int)) = true := by simp
      have c3 : decide ((i : Int) < zi 8) = true := by simp; omega
      have g1 : ((i : Int)).toNat = i := by omega
      simp only [ZU, VH, Wp, g1, h1, c1, c2, c3, WN hl i (by omega), WN ht i (by omega), V6 _ s i (by omega), PV.isInt, PV.int, decide_true, Bool.and_true, cond_true, Wk]
      have := JoI t s ht hs f l p x y e u k0 d (i + 1) n (by omega) (by omega)
      rw [← Ql _ s i (by omega), Int.add_comm (t.getD i 0)] at this
      exact this
theorem JuQ (s : List Int) (i : Nat) : Yd s (4 * i) = IntKind.u8.wrap (Jx .u32 (s.getD i 0) 24) := by
  rw [Yd, show 4 * i / 4 = i from by omega, show 4 * i % 4 = 0 from by omega]; rfl
theorem JuR (s : List Int) (i : Nat) : Yd s (4 * i + 1) = IntKind.u8.wrap (Jx .u32 (s.getD i 0) 16) := by
  rw [Yd, show (4 * i + 1) / 4 = i from by omega, show (4 * i + 1) % 4 = 1 from by omega]; rfl
theorem JuS (s : List Int) (i : Nat) : Yd s (4 * i + 2) = IntKind.u8.wrap (Jx .u32 (s.getD i 0) 8) := by
  rw [Yd, show (4 * i + 2) / 4 = i from by omega, show (4 * i + 2) % 4 = 2 from by omega]; rfl
theorem JuT (s : List Int) (i : Nat) : Yd s (4 * i + 3) = IntKind.u8.wrap (s.getD i 0) := by
  rw [Yd, show (4 * i + 3) / 4 = i from by omega, show (4 * i + 3) % 4 = 3 from by omega]
  have : Jx .u32 (s.getD i 0) (24 - 8 * ((3 : Nat) : Int)) = s.getD i 0 := by
    have h0 : (24 - 8 * ((3 : Nat) : Int)) = 0 := by decide
    rw [h0]; simp [Jx]
  rw [this]
theorem JoJ (s : List Int) (hs : s.length = 8) (f : Nat) (k0 : List PV → List PV → Option Res) (a : List PV) (t : List Int) (ht : t.length = 32) : ∀ (d i n : Nat), i + d = 8 → d < n →
    ZW f k0 n (i : Int) a (pu .u32 s) (pu .u8 (Qp (Yd s) t (4 * i))) = k0 a (pu .u8 (Jiw s))
  | 0, i, n + 1, h, hn => by
      obtain rfl : i = 8 := by omega
      simp only [ZW, VJ]
      refine (JL (by decide)).trans ?_
      have := QL (Yd s) t
      rw [ht] at this; rw [show 4 * 8 = 32 from rfl, this]; rfl
  | d + 1, i, n + 1, h, hn => by
      have h1 : IntKind.i64.wrap ((i : Int) + 1) = ((i + 1 : Nat) : Int) := by rw [wrap_i64 (by omega) (by omega)]; omega
      have h4 : IntKind.i64.wrap (4 * (i : Int)) = ((4 * i : Nat) : Int) := by rw [wrap_i64 (by omega) (by omega)]; omega
      have h41 : IntKind.i64.wrap (((4 * i : Nat) : Int) + 1) = ((4 * i + 1 : Nat) : Int) := by rw [wrap_i64 (by omega) (by omega)]; omega
      have h42 : IntKind.i64.wrap (((4 * i : Nat) : Int) + 2) = ((4 * i + 2 : Nat) : Int) := by rw [wrap_i64 (by omega) (by omega)]; omega
      have h43 : IntKind.i64.wrap (((4 * i : Nat) : Int) + 3) = ((4 * i + 3 : Nat) : Int) := by rw [wrap_i64 (by omega) (by omega)]; omega
      have c1 : decide ((i : Int) < 8) = true := by simp; omega
      have c2 : decide (0 ≤ (i : Int)) = true := by simp
      have c3 : decide ((i : Int) < zi 8) = true := by simp; omega
      have b0 : (decide (0 ≤ ((4 * i : Nat) : Int)) && decide (((4 * i : Nat) : Int) < zi 32) && true) = true := by simp; omega
      have b1 : (decide (0 ≤ ((4 * i + 1 : Nat) : Int)) && decide (((4 * i + 1 : Nat) : Int) < zi 32) && true) = true := by simp; omega
      have b2 : (decide (0 ≤ ((4 * i + 2 : Nat) : Int)) && decide (((4 * i + 2 : Nat) : Int) < zi 32) && true) = true := by simp; omega
      have b3 : (decide (0 ≤ ((4 * i + 3 : Nat) : Int)) && decide (((4 * i + 3 : Nat) : Int) < zi 32) && true) = true := by simp; omega
      have g1 : ((i : Int)).toNat = i := by omega
      have g2 : (((4 * i : Nat) : Int)).toNat = 4 * i := by omega
      have g3 : (((4 * i + 1 : Nat) : Int)).toNat = 4 * i + 1 := by omega
      have g4 : (((4 * i + 2 : Nat) : Int)).toNat = 4 * i + 2 := by omega
      have g5 : (((4 * i + 3 : Nat) : Int)).toNat = 4 * i + 3 := by omega
      simp only [ZW, VJ, h1, h4, h41, h42, h43, b0, b1, b2, b3, g1, g2, g3, g4, g5, Wp, c1, c2, c3, WN hs i (by omega), PV.isInt, PV.int, decide_true, Bool.and_true, cond_true, Wk]
      have := JoJ s hs f k0 a t ht d (i + 1) n (by omega) (by omega)
      rw [show 4 * (i + 1) = 4 * i + 3 + 1 from by omega, ← Ql (Yd s) t (4 * i + 3) (by omega), ← Ql (Yd s) t (4 * i + 2) (by omega), ← Ql (Yd s) t (4 * i + 1) (by omega), ← Ql (Yd s) t (4 * i) (by omega), JuQ, JuR, JuS, JuT] at this
      exact this
theorem JoK (P : List Int) (m : Nat) (hP : P.length = 64 * m) (hb : P.length ≤ 140737488356000) (f : Nat) (hf : 100 ≤ f) (x : List PV) (k0 : List PV → List PV → Option Res) : ∀ (d i n : Nat) (T : List Int), i + d = m → d < n → T.length = 64 →
    ZV f k0 n P.length ((64 * i : Nat) : Int) x (pu .u32 kks) (pu .u32 (Q0 iv P i)) (pu .u8 P) (pu .u32 T) = k0 x (pu .u32 (Q0 iv P m))
  | 0, i, n + 1, T, h, hn, hT => by
      obtain rfl : i = m := by omega
      simp only [ZV, VI]
      exact JL (by simp [zi]; omega)
  | d + 1, i, n + 1, T, h, hn, hT => by
      have hfl := Wt iv P rfl i
      simp only [ZV, VI]
      refine (Jb (by simp [zi]; omega)).trans ?_
      have e3 := fun kk => JoF P i (by omega) hb T hT f x (pu .u32 kks) (pu .u32 (Q0 iv P i)) kk 16 0 f (by omega) (by omega)
      have e4 := fun kk => JoG ((P.drop (64 * i)).take 64) T hT f P.length ((64 * i : Nat) : Int) x (pu .u32 kks) (pu .u32 (Q0 iv P i)) (pu .u8 P) kk 48 0 f (by omega) (by omega)
      have hW : (J8 ((P.drop (64 * i)).take 64)).length = 64 := JU _ 48
      have e5 := fun kk => JoH (J8 ((P.drop (64 * i)).take 64)) (Q0 iv P i) hW hfl f P.length ((64 * i : Nat) : Int) x (pu .u32 (Q0 iv P i)) (pu .u8 P) kk 64 0 f (by omega) (by omega)
      have e6 := fun kk => JoI (Yz (J8 ((P.drop (64 * i)).take 64)) (Q0 iv P i) 64) (Q0 iv P i) (W0 _ _ hfl 64) hfl f P.length ((64 * i : Nat) : Int) x (pu .u32 kks) (pu .u8 P) (pu .u32 (J8 ((P.drop (64 * i)).take 64))) kk 8 0 f (by omega) (by omega)
      have h0 : Qp (Jbh ((P.drop (64 * i)).take 64)) T 16 = Zz ((P.drop (64 * i)).take 64) T 0 := rfl
      rw [Qw] at e6
      simp only [Qw] at e3
      refine (e3 _).trans ?_
      rw [h0]
      refine (e4 _).trans ?_
      refine (e5 _).trans ?_
      refine (e6 _).trans ?_
      have h1 : IntKind.i64.wrap (((64 * i : Nat) : Int) + 64) = ((64 * (i + 1) : Nat) : Int) := by rw [wrap_i64 (by omega) (by omega)]; omega
      rw [h1]
      exact JoK P m hP hb f hf x k0 d (i + 1) n (J8 ((P.drop (64 * i)).take 64)) (by omega) (by omega) hW
theorem Jq4 (bs : List Int) (hb : bs.length ≤ 140737488355000) (nl fl : Bool) (k : Res → Option Res) : g28 ((Qq bs).length / 64 + 100) nl fl (pu .u8 bs) k = k ⟨.ar 37 (pu .u8 (Jt bs)), [], []⟩ := by
  rw [GZ]
  have hlen : (Qq bs).length = bs.length + 1 + zs (bs.length + 1) + 8 := by simp [Qq, JlQ]; omega
  have hz : zs (bs.length + 1) < 64 := by unfold zs; omega
  have h64 : (Qq bs).length = 64 * ((Qq bs).length / 64) := GB bs
  generalize hf : (Qq bs).length / 64 + 100 = f
  refine (Jb (by simp [Jj]; omega)).trans ?_
  refine (Jb (by simp [Jj]; omega)).trans ?_
  have hL : List.take (0 + (pu .u8 bs).length) ([] ++ pu .u8 bs) ++ [PV.sc (Value.int IntKind.u8 128)] = pu .u8 (bs ++ [128]) := by
    rw [List.take_of_length_le (by simp)]; simp
  rw [hL]
  have e0 := fun kk x y w => JoD f nl fl (pu .u8 bs) x y w kk (zs (bs.length + 1)) f (bs ++ [128]) (by simp) (by omega) (by simp; omega)
  simp only [List.length_append, List.length_cons, List.length_nil, Nat.zero_add] at e0
  have hl1 : 0 + (pu .u8 bs).length + 1 = bs.length + 1 := by simp
  rw [hl1]
  refine (e0 _ _ _ _).trans ?_
  have e1 := fun kk x y w => JoE f (IntKind.u64.wrap (IntKind.u64.wrap (zi (pu .u8 bs).length) * 8)) x y w kk (bs ++ [128] ++ List.replicate (zs (bs.length + 1)) 0) (by simp; omega) 8 0 f (by omega) (by omega)
  have hl2 : (bs ++ [128] ++ List.replicate (zs (bs.length + 1)) 0).length = bs.length + 1 + zs (bs.length + 1) := by simp; omega
  rw [hl2] at e1
  simp only [List.range_zero, List.map_nil, List.append_nil, Nat.add_zero] at e1
  refine (e1 _ _ _ _).trans ?_
  have hPd : bs ++ [128] ++ List.replicate (zs (bs.length + 1)) 0 ++ (List.range 8).map (JmB (IntKind.u64.wrap (IntKind.u64.wrap (zi (pu .u8 bs).length) * 8))) = Qq bs := by
    rw [JF]; rfl
  rw [hPd, ← hlen]
  have e2 := fun kk x => JoK (Qq bs) ((Qq bs).length / 64) h64 (by omega) f (by omega) x kk ((Qq bs).length / 64) 0 f (List.replicate 64 0) (by omega) (by omega) (by simp)
  refine (e2 _ _).trans ?_
  have hfl := Wt iv (Qq bs) rfl ((Qq bs).length / 64)
  have e7 := fun kk a => JoJ (Q0 iv (Qq bs) ((Qq bs).length / 64)) hfl f kk a (List.replicate 32 0) (by simp) 8 0 f (by omega) (by omega)
  simp only [Nat.mul_zero, Qw] at e7
  exact e7 _ _
def Jf4 : List PV → List Ent → (Res → Option Res) → Option Res
  | [.ro 5 nl fl b], [], k => bif Jf .u8 b && decide (b.length ≤ 140737488355000) then k ⟨.ar 37 (pu .u8 (Jt (Je b))), [], []⟩ else none
  | _, _, _ => none
def Jq5 : Sig := { own := [], run := Jf4 }
theorem JoL : Ji tau Try.prog 28 Jq5 := JfB Jr XR Js JuN JuO (fun n => Jms (JaQ n) (JaR n) (JaS n) (JaT n)) [] 0 [] Jf4 (fun n => Jx3 n) fun xs es k res hr => by
  unfold Jf4 at hr
  split at hr
  · rename_i nl fl l
    obtain ⟨hc, hr⟩ := JI hr
    simp only [Bool.and_eq_true, decide_eq_true_eq] at hc
    refine ⟨rfl, (Qq (Je l)).length / 64 + 100, 0, (e28 _ _ _ _ _).trans ?_⟩
    have he := Qa hc.1
    have := Jq4 (Je l) (by simpa using hc.2) nl fl k
    rw [← he] at this
    rw [this]; exact hr
  · cases hr
noncomputable abbrev z36 : List PV := [PV.sc (.int .u8 0), PV.sc (.int .u8 0), PV.sc (.int .u8 0), PV.sc (.int .u8 0), PV.sc (.int .u8 0), PV.sc (.int .u8 0), PV.sc (.int .u8 0), PV.sc (.int .u8 0), PV.sc (.int .u8 0), PV.sc (.int .u8 0), PV.sc (.int .u8 0), PV.sc (.int .u8 0), PV.sc (.int .u8 0), PV.sc (.int .u8 0), PV.sc (.int .u8 0), PV.sc (.int .u8 0), PV.sc (.int .u8 0), PV.sc (.int .u8 0), PV.sc (.int .u8 0), PV.sc (.int .u8 0), PV.sc (.int .u8 0), PV.sc (.int .u8 0), PV.sc (.int .u8 0), PV.sc (.int .u8 0), PV.sc (.int .u8 0), PV.sc (.int .u8 0), PV.sc (.int .u8 0), PV.sc (.int .u8 0), PV.sc (.int .u8 0), PV.sc (.int .u8 0), PV.sc (.int .u8 0), PV.sc (.int .u8 0), PV.sc (.int .u8 0), PV.sc (.int .u8 0), PV.sc (.int .u8 0), PV.sc (.int .u8 0), PV.sc (.int .u8 0), PV.sc (.int .u8 0), PV.sc (.int .u8 0), PV.sc (.int .u8 0), PV.sc (.int .u8 0), PV.sc (.int .u8 0), PV.sc (.int .u8 0), PV.sc (.int .u8 0), PV.sc (.int .u8 0), PV.sc (.int .u8 0), PV.sc (.int .u8 0), PV.sc (.int .u8 0), PV.sc (.int .u8 0), PV.sc (.int .u8 0), PV.sc (.int .u8 0), PV.sc (.int .u8 0), PV.sc (.int .u8 0), PV.sc (.int .u8 0), PV.sc (.int .u8 0), PV.sc (.int .u8 0), PV.sc (.int .u8 0), PV.sc (.int .u8 0), PV.sc (.int .u8 0), PV.sc (.int .u8 0), PV.sc (.int .u8 0), PV.sc (.int .u8 0), PV.sc (.int .u8 0), PV.sc (.int .u8 0)]
def N36 : Nat := 53
noncomputable def F36 : Fns := JG 28 Jq5 (F0)
theorem Jkh : Jz tau Try.prog F36 := (JH).add JoL JuP
noncomputable def Jb8 : Code := QA (Try.f36.body.get!) [1, 1, 1, 1, 0, 1, 0, 0]
def X0 : Nm := [(1, .any), (4, .any), (5, .any), (7, .any), (8, .any), (9, .any)]
def YY : Nm := [(1, .any), (4, .any), (7, .any), (8, .any)]
def JeH : An := (.seq (.seq .leaf (.cond .leaf .leaf)) (.seq (.block none .leaf) .leaf))
def JmD (r0 : Wg) : An := (.seq .leaf (.seq .leaf (.seq (.seq .leaf (.cond (.seq .leaf .leaf) .leaf)) (.seq .leaf (.seq (.seq .leaf (.block none (.sum X0 N36 r0))) (.seq .leaf (.seq .leaf .leaf)))))))
noncomputable def VK (f : Nat) (rc : Bool → Bool → List PV → Int → List PV → List PV → List PV → List PV → Option Res) (k0 : Bool → Bool → List PV → List PV → List PV → List PV → Option Res) (v0 : Bool) (v1 : Bool) (v2 : List PV) (v3 : Int) (v4 : List PV) (v5 : List PV) (v6 : List PV) (v7 : List PV) : Option Res := bif decide (v3 < 64) then bif decide (0 ≤ v3) && decide (v3 < zi 64) && true then bif PV.isInt IntKind.u8 (Jm (v5.getD (0 + v3.toNat) PV.top) []) && true then bif decide (0 ≤ v3) && decide (v3 < zi 64) && true then bif PV.isInt IntKind.u8 (Jm (v5.getD (0 + v3.toNat) PV.top) []) && true then bif decide (0 ≤ v3) && decide (v3 < zi 64) && true then bif decide (0 ≤ v3) && decide (v3 < zi 64) && true then rc v0 v1 v2 (IntKind.i64.wrap (v3 + 1)) v4 v5 (v6.set (0 + v3.toNat) (.sc (.int .u8 (JC BinOp.xor IntKind.u8 (Jm (v5.getD (0 + v3.toNat) PV.top) []).int 54)))) (v7.set (0 + v3.toNat) (.sc (.int .u8 (JC BinOp.xor IntKind.u8 (Jm (v5.getD (0 + v3.toNat) PV.top) []).int 92)))) else none else none else none else none else none else none else k0 v0 v1 v2 v4 v6 v7
noncomputable def WO (f : Nat) (k0 : Bool → Bool → List PV → List PV → List PV → List PV → Option Res) : Nat → Bool → Bool → List PV → Int → List PV → List PV → List PV → List PV → Option Res
  | 0, _, _, _, _, _, _, _, _ => none
  | n + 1, v0, v1, v2, v3, v4, v5, v6, v7 => VK f (WO f k0 n) k0 v0 v1 v2 v3 v4 v5 v6 v7
theorem JmE (f : Nat) (k : Kont) (n : Nat) (v0 : Bool) (v1 : Bool) (v2 : List PV) (v3 : Int) (v4 : List PV) (v5 : List PV) (v6 : List PV) (v7 : List PV) : Jo tau 0 X0 (fun s k => ev tau F36 0 0 Jb8 (JeH ) s k) (n + 1) (Jd X0 N36 [.ro 5 v0 v1 v2, .ptr 864 [], .ow 5 865 [] 0 64 (some 64), .ow 5 866 [] 0 64 (some 64), .ow 5 867 [] 0 64 (some 64), .sc (.int .i64 v3)] [(864, .box false 37 (PV.ar 37 v4)), (865, .vec false 5 false v5), (866, .vec false 5 false v6), (867, .vec false 5 false v7)]) (Jy tau 0 YY k) = VK f (fun v0 v1 v2 v3 v4 v5 v6 v7 => Jo tau 0 X0 (fun s k => ev tau F36 0 0 Jb8 (JeH ) s k) n (Jd X0 N36 [.ro 5 v0 v1 v2, .ptr 864 [], .ow 5 865 [] 0 64 (some 64), .ow 5 866 [] 0 64 (some 64), .ow 5 867 [] 0 64 (some 64), .sc (.int .i64 v3)] [(864, .box false 37 (PV.ar 37 v4)), (865, .vec false 5 false v5), (866, .vec false 5 false v6), (867, .vec false 5 false v7)]) (Jy tau 0 YY k)) (fun x0 x1 x2 x3 x4 x5 => k (Ex.exit 0) (Jd YY N36 [.ro 5 x0 x1 x2, .ptr 864 [], .ow 5 865 [] 0 64 (some 64), .ow 5 866 [] 0 64 (some 64)] [(864, .box false 37 (PV.ar 37 x3)), (865, .vec false 5 false x4), (866, .vec false 5 false x5)])) v0 v1 v2 v3 v4 v5 v6 v7 := by kernel_rfl
theorem JhB (f : Nat) (k : Kont) : ∀ (n : Nat) (v0 : Bool) (v1 : Bool) (v2 : List PV) (v3 : Int) (v4 : List PV) (v5 : List PV) (v6 : List PV) (v7 : List PV), Jo tau 0 X0 (fun s k => ev tau F36 0 0 Jb8 (JeH ) s k) n (Jd X0 N36 [.ro 5 v0 v1 v2, .ptr 864 [], .ow 5 865 [] 0 64 (some 64), .ow 5 866 [] 0 64 (some 64), .ow 5 867 [] 0 64 (some 64), .sc (.int .i64 v3)] [(864, .box false 37 (PV.ar 37 v4)), (865, .vec false 5 false v5), (866, .vec false 5 false v6), (867, .vec false 5 false v7)]) (Jy tau 0 YY k) = WO f (fun x0 x1 x2 x3 x4 x5 => k (Ex.exit 0) (Jd YY N36 [.ro 5 x0 x1 x2, .ptr 864 [], .ow 5 865 [] 0 64 (some 64), .ow 5 866 [] 0 64 (some 64)] [(864, .box false 37 (PV.ar 37 x3)), (865, .vec false 5 false x4), (866, .vec false 5 false x5)])) n v0 v1 v2 v3 v4 v5 v6 v7 | 0, _, _, _, _, _, _, _, _ => rfl | n + 1, v0, v1, v2, v3, v4, v5, v6, v7 => (JmE f k n v0 v1 v2 v3 v4 v5 v6 v7).trans (congrArg (fun r => VK f r (fun x0 x1 x2 x3 x4 x5 => k (Ex.exit 0) (Jd YY N36 [.ro 5 x0 x1 x2, .ptr 864 [], .ow 5 865 [] 0 64 (some 64), .ow 5 866 [] 0 64 (some 64)] [(864, .box false 37 (PV.ar 37 x3)), (865, .vec false 5 false x4), (866, .vec false 5 false x5)])) v0 v1 v2 v3 v4 v5 v6 v7) (by funext v0 v1 v2 v3 v4 v5 v6 v7; exact JhB f k n v0 v1 v2 v3 v4 v5 v6 v7))
noncomputable def JaU (f : Nat) : List PV → List (Nat × Ent) → Kont → Option Res
  | [.ro 5 v0 v1 v2, .ptr 864 [], .ow 5 865 [] 0 64 (some 64), .ow 5 866 [] 0 64 (some 64), .ow 5 867 [] 0 64 (some 64),
  PV.sc
    (Value.int IntKind.i64
      v3)], [(864, .box false 37 (PV.ar 37 v4)), (865, .vec false 5 false v5), (866, .vec false 5 false v6),
  (867,
    Ent.vec false 5 false
      v7)], k => WO f (fun x0 x1 x2 x3 x4 x5 => k (Ex.exit
  0) (Jd YY N36 [.ro 5 x0 x1 x2, .ptr 864 [], .ow 5 865 [] 0 64 (some 64),
  PV.ow 5 866 [] 0 64 (some 64)] [(864, .box false 37 (PV.ar 37 x3)), (865, .vec false 5 false x4), (866, .vec false 5 false x5)])) f v0 v1 v2 v3 v4 v5 v6 v7
  | _, _, _ => none
theorem Jq6 (f : Nat) : Jg Jb8 JeH = [] := by kernel_rfl
theorem JuU (f : Nat) : (Item.l Jb8 X0 N36 (JaU f)).Ok tau Try.prog 0 := JJ Jr Jkh Js (x := JeH) (nm2 := YY) (Jp _ _ (by rw [Jq6 f]; intro q hq; cases hq)) fun vs hp k res hr => by
  unfold JaU at hr
  split at hr
  · exact ⟨f, 0, (JhB f _ f _ _ _ _ _ _ _ _ ).trans hr⟩
  · cases hr
noncomputable def g36 (f : Nat) (key_z : Bool) (key_f : Bool) (key : List PV) (text_z : Bool) (text_f : Bool) (text : List PV) (k : Res → Option Res) : Option Res := bif decide (zi key.length > 64) then bif Jf IntKind.u8 key && decide (key.length ≤ 140737488355000) then WO f (fun x0_0 x1_0 x2_0 x3_0 x4_0 x5_0 => bif Jj (64 + x2_0.length) 1 && true then bif Jf IntKind.u8 (List.take (64 + x2_0.length) (List.take 64 x4_0 ++ x2_0)) && decide ((List.take (64 + x2_0.length) (List.take 64 x4_0 ++ x2_0)).length ≤ 140737488355000) then bif Jj (64 + (List.take 32 (pu IntKind.u8 (Jt (Je (List.take (64 + x2_0.length) (List.take 64 x4_0 ++ x2_0)))))).length) 1 && true then bif Jf IntKind.u8 (List.take (64 + (List.take 32 (pu IntKind.u8 (Jt (Je (List.take (64 + x2_0.length) (List.take 64 x4_0 ++ x2_0)))))).length) (List.take 64 x5_0 ++ List.take 32 (pu IntKind.u8 (Jt (Je (List.take (64 + x2_0.length) (List.take 64 x4_0 ++ x2_0))))))) && decide ((List.take (64 + (List.take 32 (pu IntKind.u8 (Jt (Je (List.take (64 + x2_0.length) (List.take 64 x4_0 ++ x2_0)))))).length) (List.take 64 x5_0 ++ List.take 32 (pu IntKind.u8 (Jt (Je (List.take (64 + x2_0.length) (List.take 64 x4_0 ++ x2_0))))))).length ≤ 140737488355000) then k (Res.mk (.ar 37 (pu IntKind.u8 (Jt (Je (List.take (64 + (List.take 32 (pu IntKind.u8 (Jt (Je (List.take (64 + x2_0.length) (List.take 64 x4_0 ++ x2_0)))))).length) (List.take 64 x5_0 ++ List.take 32 (pu IntKind.u8 (Jt (Je (List.take (64 + x2_0.length) (List.take 64 x4_0 ++ x2_0))))))))))) [] []) else none else none else none else none) f text_z text_f text (0) ([.sc (.int .u8 0), .sc (.int .u8 0), .sc (.int .u8 0), .sc (.int .u8 0), .sc (.int .u8 0), .sc (.int .u8 0), .sc (.int .u8 0), .sc (.int .u8 0), .sc (.int .u8 0), .sc (.int .u8 0), .sc (.int .u8 0), .sc (.int .u8 0), .sc (.int .u8 0), .sc (.int .u8 0), .sc (.int .u8 0), .sc (.int .u8 0), .sc (.int .u8 0), .sc (.int .u8 0), .sc (.int .u8 0), .sc (.int .u8 0), .sc (.int .u8 0), .sc (.int .u8 0), .sc (.int .u8 0), .sc (.int .u8 0), .sc (.int .u8 0), .sc (.int .u8 0), .sc (.int .u8 0), .sc (.int .u8 0), .sc (.int .u8 0), .sc (.int .u8 0), .sc (.int .u8 0), .sc (.int .u8 0)]) (List.take 64 (List.take 32 (pu IntKind.u8 (Jt (Je key)))) ++ List.drop (0 + min (List.take 32 (pu IntKind.u8 (Jt (Je key)))).length 64) z36) (z36) (z36) else none else WO f (fun x0_1 x1_1 x2_1 x3_1 x4_1 x5_1 => bif Jj (64 + x2_1.length) 1 && true then bif Jf IntKind.u8 (List.take (64 + x2_1.length) (List.take 64 x4_1 ++ x2_1)) && decide ((List.take (64 + x2_1.length) (List.take 64 x4_1 ++ x2_1)).length ≤ 140737488355000) then bif Jj (64 + (List.take 32 (pu IntKind.u8 (Jt (Je (List.take (64 + x2_1.length) (List.take 64 x4_1 ++ x2_1)))))).length) 1 && true then bif Jf IntKind.u8 (List.take (64 + (List.take 32 (pu IntKind.u8 (Jt (Je (List.take (64 + x2_1.length) (List.take 64 x4_1 ++ x2_1)))))).length) (List.take 64 x5_1 ++ List.take 32 (pu IntKind.u8 (Jt (Je (List.take (64 + x2_1.length) (List.take 64 x4_1 ++ x2_1))))))) && decide ((List.take (64 + (List.take 32 (pu IntKind.u8 (Jt (Je (List.take (64 + x2_1.length) (List.take 64 x4_1 ++ x2_1)))))).length) (List.take 64 x5_1 ++ List.take 32 (pu IntKind.u8 (Jt (Je (List.take (64 + x2_1.length) (List.take 64 x4_1 ++ x2_1))))))).length ≤ 140737488355000) then k (Res.mk (.ar 37 (pu IntKind.u8 (Jt (Je (List.take (64 + (List.take 32 (pu IntKind.u8 (Jt (Je (List.take (64 + x2_1.length) (List.take 64 x4_1 ++ x2_1)))))).length) (List.take 64 x5_1 ++ List.take 32 (pu IntKind.u8 (Jt (Je (List.take (64 + x2_1.length) (List.take 64 x4_1 ++ x2_1))))))))))) [] []) else none else none else none else none) f text_z text_f text (0) ([.sc (.int .u8 0), .sc (.int .u8 0), .sc (.int .u8 0), .sc (.int .u8 0), .sc (.int .u8 0), .sc (.int .u8 0), .sc (.int .u8 0), .sc (.int .u8 0), .sc (.int .u8 0), .sc (.int .u8 0), .sc (.int .u8 0), .sc (.int .u8 0), .sc (.int .u8 0), .sc (.int .u8 0), .sc (.int .u8 0), .sc (.int .u8 0), .sc (.int .u8 0), .sc (.int .u8 0), .sc (.int .u8 0), .sc (.int .u8 0), .sc (.int .u8 0), .sc (.int .u8 0), .sc (.int .u8 0), .sc (.int .u8 0), .sc (.int .u8 0), .sc (.int .u8 0), .sc (.int .u8 0), .sc (.int .u8 0), .sc (.int .u8 0), .sc (.int .u8 0), .sc (.int .u8 0), .sc (.int .u8 0)]) (List.take 64 key ++ List.drop (0 + min key.length 64) z36) (z36) (z36)
theorem e36 (f : Nat) (key_z : Bool) (key_f : Bool) (key : List PV) (text_z : Bool) (text_f : Bool) (text : List PV) (k : Res → Option Res) : JR tau F36 Try.f36 (Try.f36.body.get!) (JmD (JaU f)) [.ro] 0 [.ro 5 key_z key_f key, .ro 5 text_z text_f text] [] k = g36 f key_z key_f key text_z text_f text k := by kernel_rfl
theorem Jx4 (f : Nat) : Jg (Try.f36.body.get!) (JmD (JaU f)) = [.l Jb8 X0 N36 (JaU f)] := by kernel_rfl
theorem Jx5 (f : Nat) : ∀ q ∈ Jg (Try.f36.body.get!) (JmD (JaU f)), q.Ok tau Try.prog 0 := by
  rw [Jx4 f]; simp only [List.forall_mem_cons, List.not_mem_nil, false_implies, implies_true, and_true]; exact JuU f
theorem JuV : Try.prog.funcs[36]? = some Try.f36 := by kernel_rfl
theorem JuW : Try.f36.body = some (Try.f36.body.get!) := by kernel_rfl
theorem Jx6 : Enters Try.prog 36 := enters_of JuV (by kernel_rfl) JuW
-- FN ref3.Mac
theorem Jb9 (K : List Int) (hK : K.length = 64) (x : Int) : (List.range 64).map (fun j => JC .xor .u8 (K.getD j 0) x) = JS K x := by
  rw [← Jev K hK x]
  apply List.map_congr_left
  intro j _
  exact Zy _ _ _
theorem JoM (K : List Int) (hK : K.length = 64) (f : Nat) (k0 : Bool → Bool → List PV → List PV → List PV → List PV → Option Res) (tz tf : Bool) (text h : List PV) : ∀ (d i n : Nat), i + d = 64 → d < n →
    WO f k0 n tz tf text (i : Int) h (pu .u8 K) (pu .u8 (Qp (fun j => JC .xor .u8 (K.getD j 0) 54) (List.replicate 64 0) i)) (pu .u8 (Qp (fun j => JC .xor .u8 (K.getD j 0) 92) (List.replicate 64 0) i)) = k0 tz tf text h (pu .u8 (JS K 54)) (pu .u8 (JS K 92))
  | 0, i, n + 1, hh, hn => by
      obtain rfl : i = 64 := by omega
      simp only [WO, VK]
      refine (JL (by decide)).trans ?_
      have h1 := QL (fun j => JC .xor .u8 (K.getD j 0) 54) (List.replicate 64 0)
      have h2 := QL (fun j => JC .xor .u8 (K.getD j 0) 92) (List.replicate 64 0)
      rw [List.length_replicate] at h1 h2
      rw [h1, h2, Jb9 K hK, Jb9 K hK]
  | d + 1, i, n + 1, hh, hn => by
      have g1 : ((i : Int)).toNat = i := by omega
      have h1 : IntKind.i64.wrap ((i : Int) + 1) = ((i + 1 : Nat) : Int) := by rw [wrap_i64 (by omega) (by omega)]; omega
      have c0 : (decide (0 ≤ (i : Int)) && decide ((i : Int) < zi 64) && true) = true := by simp; omega
      simp only [WO, VK, g1, h1, Nat.zero_add, Jm]
      rw [JT (by omega), Qk (by omega), Wk, Wk]
      refine (Jb (by simp; omega)).trans ((Jb c0).trans ((Jb rfl).trans ((Jb c0).trans ((Jb rfl).trans ((Jb c0).trans ((Jb c0).trans ?_))))))
      have := JoM K hK f k0 tz tf text h d (i + 1) n (by omega) (by omega)
      rw [← Ql _ _ i (by simp; omega), ← Ql _ _ i (by simp; omega)] at this
      exact this
def Zm (a b text : List PV) (k : Res → Option Res) : Option Res :=
  bif Jj (64 + text.length) 1 && true then
    bif Jf .u8 (List.take (64 + text.length) (List.take 64 a ++ text)) && decide ((List.take (64 + text.length) (List.take 64 a ++ text)).length ≤ 140737488355000) then
      bif Jj (64 + (List.take 32 (pu .u8 (Jt (Je (List.take (64 + text.length) (List.take 64 a ++ text)))))).length) 1 && true then
        bif Jf .u8 (List.take (64 + (List.take 32 (pu .u8 (Jt (Je (List.take (64 + text.length) (List.take 64 a ++ text)))))).length) (List.take 64 b ++ List.take 32 (pu .u8 (Jt (Je (List.take (64 + text.length) (List.take 64 a ++ text)))))))
            && decide ((List.take (64 + (List.take 32 (pu .u8 (Jt (Je (List.take (64 + text.length) (List.take 64 a ++ text)))))).length) (List.take 64 b ++ List.take 32 (pu .u8 (Jt (Je (List.take (64 + text.length) (List.take 64 a ++ text))))))).length ≤ 140737488355000) then
          k ⟨.ar 37 (pu .u8 (Jt (Je (List.take (64 + (List.take 32 (pu .u8 (Jt (Je (List.take (64 + text.length) (List.take 64 a ++ text)))))).length) (List.take 64 b ++ List.take 32 (pu .u8 (Jt (Je (List.take (64 + text.length) (List.take 64 a ++ text)))))))))), [], []⟩
        else none
      else none
    else none
  else none
theorem Jki (f : Nat) (kz kf : Bool) (key : List PV) (tz tf : Bool) (text : List PV) (k : Res → Option Res) : g36 f kz kf key tz tf text k =
    (bif decide (zi key.length > 64) then
      bif Jf .u8 key && decide (key.length ≤ 140737488355000) then
        WO f (fun _ _ t _ a b => Zm a b t k) f tz tf text 0 (pu .u8 (List.replicate 32 0)) (kbG (List.take 32 (pu .u8 (Jt (Je key))))) (pu .u8 (List.replicate 64 0)) (pu .u8 (List.replicate 64 0))
      else none
    else WO f (fun _ _ t _ a b => Zm a b t k) f tz tf text 0 (pu .u8 (List.replicate 32 0)) (kbG key) (pu .u8 (List.replicate 64 0)) (pu .u8 (List.replicate 64 0))) := by kernel_rfl
theorem Jf5 (K T : List Int) (hK : K.length = 64) (hT : T.length ≤ 1000000000) (k : Res → Option Res) :
    Zm (pu .u8 (JS K 54)) (pu .u8 (JS K 92)) (pu .u8 T) k = k ⟨.ar 37 (pu .u8 (Jt (JS K 92 ++ Jt (JS K 54 ++ T)))), [], []⟩ := by
  have e1 : List.take (64 + (pu .u8 T).length) (List.take 64 (pu .u8 (JS K 54)) ++ pu .u8 T) = pu .u8 (JS K 54 ++ T) := by
    rw [List.take_of_length_le (i := 64) (by simp [hK]), List.take_of_length_le (by simp [hK]), ← JN]
  have e2 : ∀ l : List Int, List.take 32 (pu .u8 (Jt l)) = pu .u8 (Jt l) := fun l => List.take_of_length_le (by simp [JX])
  have e3 : ∀ l : List Int, List.take (64 + (pu .u8 (Jt l)).length) (List.take 64 (pu .u8 (JS K 92)) ++ pu .u8 (Jt l)) = pu .u8 (JS K 92 ++ Jt l) := fun l => by
    rw [List.take_of_length_le (i := 64) (by simp [hK]), List.take_of_length_le (by simp [hK]), ← JN]
  unfold Zm
  rw [e1, e2, e3, Jb (by simp [Jj]; omega), Jb (by rw [JK, JF]; simp [hK]; omega), Jb (by simp [Jj, JX]), Jb (by rw [JK, JF]; simp [hK, JX])]
  simp only [Qf]
noncomputable def Jf6 : List PV → List Ent → (Res → Option Res) → Option Res
  | [.ro 5 kz kf key, .ro 5 tz tf text], [], k =>
    bif (Jf .u8 key && decide (key.length ≤ 1000000000)) && (Jf .u8 text && decide (text.length ≤ 1000000000)) then
      k ⟨.ar 37 (pu .u8 (Q1 (Je key) (Je text))), [], []⟩ else none
  | _, _, _ => none
noncomputable def JuX : Sig := { own := [], run := Jf6 }
theorem Jq7 (kz kf : Bool) (key : List PV) (tz tf : Bool) (text : List PV) (k : Res → Option Res) (a1 : Jf .u8 key = true) (a2 : key.length ≤ 1000000000) (h3 : Jf .u8 text = true) (h4 : text.length ≤ 1000000000) :
    g36 70 kz kf key tz tf text k = k ⟨.ar 37 (pu .u8 (Q1 (Je key) (Je text))), [], []⟩ := by
  rw [Jki, G1, Jew]
  have hi := Qa a1
  have ht := Qa h3
  have hL : ∀ K : List Int, K.length = 64 → WO 70 (fun _ _ t _ a b => Zm a b t k) 70 tz tf text 0 (pu .u8 (List.replicate 32 0)) (pu .u8 K) (pu .u8 (List.replicate 64 0)) (pu .u8 (List.replicate 64 0)) = k ⟨.ar 37 (pu .u8 (Jt (JS K 92 ++ Jt (JS K 54 ++ Je text)))), [], []⟩ := by
    intro K hK
    have := JoM K hK 70 (fun _ _ t _ a b => Zm a b t k) tz tf text (pu .u8 (List.replicate 32 0)) 64 0 70 (by omega) (by omega)
    rw [Qw, Qw] at this
    refine this.trans ?_
    have hm := Jf5 K (Je text) hK (by simpa using h4) k
    rw [← ht] at hm
    exact hm
  by_cases hc : key.length > 64
  · rw [Jb (by simp [zi]; omega), Jb (by simp [a1]; omega), List.take_of_length_le (by simp [JX]), JcU _ (by rw [JX]; omega),
      hL _ (by rw [← W3 (Je key), Vv, if_pos (by simpa using hc)]), Vv, if_pos (by simpa using hc)]
  · have hl : (Je key).length ≤ 64 := by simp; omega
    rw [JL (by simp [zi]; omega), hi, JcU _ hl, Qf, hL _ (by rw [← W3 (Je key), Vv, if_neg (by omega)]), Vv, if_neg (by omega)]
theorem JuY : Ji tau Try.prog 36 JuX := Ji.mk' fun xs es k res hl hr => by
  change Jf6 xs es k = some res at hr
  unfold Jf6 at hr
  split at hr
  · rename_i kz kf key tz tf text
    obtain ⟨hc, hr⟩ := JI hr
    simp only [Bool.and_eq_true, decide_eq_true_eq] at hc
    obtain ⟨⟨a1, a2⟩, h3, h4⟩ := hc
    exact Qo Jr Jkh Js JuV JuW (JmD (JaU 70)) [.ro] 0 0 (Jx5 70) hl rfl ((e36 70 kz kf key tz tf text k).trans ((Jq7 kz kf key tz tf text k a1 a2 h3 h4).trans hr))
  · cases hr
noncomputable def JuZ : Fns := JG 70 Jl2 (F0)
theorem JmF : Jz tau Try.prog JuZ := (JH).add JjJ Jp7
def JhC : An := (.seq .leaf (.seq .leaf .leaf))
noncomputable def Jq8 (f : Nat) (b_z : Bool) (b_f : Bool) (b : List PV) (n : Int) (k : Res → Option Res) : Option Res := bif decide ((Jk [.ro 5 b_z b_f b, .ro 5 false false [.sc (.int .u8 (IntKind.u8.wrap n))]]).length ≤ 140737488355328) && true then k (Res.mk (.ow 5 16 [] 0 (Jk [.ro 5 b_z b_f b, .ro 5 false false [.sc (.int .u8 (IntKind.u8.wrap n))]]).length none) [] [.vec false 5 (Jk [.ro 5 b_z b_f b, .ro 5 false false [.sc (.int .u8 (IntKind.u8.wrap n))]]).isEmpty (Jk [.ro 5 b_z b_f b, .ro 5 false false [.sc (.int .u8 (IntKind.u8.wrap n))]])]) else none
theorem Jx7 (f : Nat) (b_z : Bool) (b_f : Bool) (b : List PV) (n : Int) (k : Res → Option Res) : JR tau JuZ Try.f96 (Try.f96.body.get!) JhC [] 0 [.ro 5 b_z b_f b, .sc (.int .i64 n)] [] k = Jq8 f b_z b_f b n k := by kernel_rfl
theorem Ju0 (f : Nat) : Jg (Try.f96.body.get!) JhC = [] := by kernel_rfl
theorem Ju1 (f : Nat) : ∀ q ∈ Jg (Try.f96.body.get!) JhC, q.Ok tau Try.prog 0 := by
  rw [Ju0 f]; intro q hq; cases hq
theorem Ju2 : Try.prog.funcs[96]? = some Try.f96 := by kernel_rfl
theorem Ju3 : Try.f96.body = some (Try.f96.body.get!) := by kernel_rfl
noncomputable def Ju4 : Fns := JG 70 Jl2 (F0)
theorem JmG : Jz tau Try.prog Ju4 := (JH).add JjJ Jp7
def JhD : An := (.seq .leaf (.seq .leaf (.seq .leaf .leaf)))
noncomputable def Jq9 (f : Nat) (b_z : Bool) (b_f : Bool) (b : List PV) (s : ByteArray) (k : Res → Option Res) : Option Res := bif decide (0 ≤ Qm (zi s.size) 65535) && true && decide ((Qm (zi s.size) 65535).toNat ≤ s.size) && true then bif Jj (s.extract 0 (Qm (zi s.size) 65535).toNat).size 1 && true then bif decide ((Jk [.ro 5 b_z b_f b, .ro 5 false false [.sc (.int .u8 (IntKind.u8.wrap (zi (s.extract 0 (Qm (zi s.size) 65535).toNat).size))), .sc (.int .u8 (IntKind.u8.wrap (Jx IntKind.i64 (zi (s.extract 0 (Qm (zi s.size) 65535).toNat).size) 8)))], .ro 5 false false (List.take (s.extract 0 (Qm (zi s.size) 65535).toNat).size (Jn (s.extract 0 (Qm (zi s.size) 65535).toNat)))]).length ≤ 140737488355328) && true then k (Res.mk (.ow 5 16 [] 0 (Jk [.ro 5 b_z b_f b, .ro 5 false false [.sc (.int .u8 (IntKind.u8.wrap (zi (s.extract 0 (Qm (zi s.size) 65535).toNat).size))), .sc (.int .u8 (IntKind.u8.wrap (Jx IntKind.i64 (zi (s.extract 0 (Qm (zi s.size) 65535).toNat).size) 8)))], .ro 5 false false (List.take (s.extract 0 (Qm (zi s.size) 65535).toNat).size (Jn (s.extract 0 (Qm (zi s.size) 65535).toNat)))]).length none) [] [.vec false 5 (Jk [.ro 5 b_z b_f b, .ro 5 false false [.sc (.int .u8 (IntKind.u8.wrap (zi (s.extract 0 (Qm (zi s.size) 65535).toNat).size))), .sc (.int .u8 (IntKind.u8.wrap (Jx IntKind.i64 (zi (s.extract 0 (Qm (zi s.size) 65535).toNat).size) 8)))], .ro 5 false false (List.take (s.extract 0 (Qm (zi s.size) 65535).toNat).size (Jn (s.extract 0 (Qm (zi s.size) 65535).toNat)))]).isEmpty (Jk [.ro 5 b_z b_f b, .ro 5 false false [.sc (.int .u8 (IntKind.u8.wrap (zi (s.extract 0 (Qm (zi s.size) 65535).toNat).size))), .sc (.int .u8 (IntKind.u8.wrap (Jx IntKind.i64 (zi (s.extract 0 (Qm (zi s.size) 65535).toNat).size) 8)))], .ro 5 false false (List.take (s.extract 0 (Qm (zi s.size) 65535).toNat).size (Jn (s.extract 0 (Qm (zi s.size) 65535).toNat)))])]) else none else none else none
theorem Jx8 (f : Nat) (b_z : Bool) (b_f : Bool) (b : List PV) (s : ByteArray) (k : Res → Option Res) : JR tau Ju4 Try.f98 (Try.f98.body.get!) JhD [] 0 [.ro 5 b_z b_f b, .sc (.string s)] [] k = Jq9 f b_z b_f b s k := by kernel_rfl
theorem Ju5 (f : Nat) : Jg (Try.f98.body.get!) JhD = [] := by kernel_rfl
theorem Ju6 (f : Nat) : ∀ q ∈ Jg (Try.f98.body.get!) JhD, q.Ok tau Try.prog 0 := by
  rw [Ju5 f]; intro q hq; cases hq
theorem Ju7 : Try.prog.funcs[98]? = some Try.f98 := by kernel_rfl
theorem Ju8 : Try.f98.body = some (Try.f98.body.get!) := by kernel_rfl
noncomputable def Jc4 : List PV → List Ent → (Res → Option Res) → Option Res
  | [.ro 5 z f b, .sc (.int .i64 n)], [], k => bif slB z b then k ⟨.ow 5 16 [] 0 (b.length + 1) none, [], [.vec false 5 false (b ++ pu .u8 [IntKind.u8.wrap n])]⟩ else none
  | _, _, _ => none
noncomputable def Jx9 : Sig := { own := [], run := Jc4 }
theorem Ju9 : Ji tau Try.prog 96 Jx9 := Ji.mk' fun xs es k res hl hr => by
  change Jc4 xs es k = some res at hr
  unfold Jc4 at hr
  split at hr
  · rename_i z f b n
    obtain ⟨hc, hr⟩ := JI hr
    obtain ⟨h1, h2⟩ := QZ.1 hc
    have hg : Jq8 0 z f b n k = some res := by
      have hf : Jk [PV.ro 5 z f b, PV.ro 5 false false [PV.sc (Value.int IntKind.u8 (IntKind.u8.wrap n))]] = b ++ pu .u8 [IntKind.u8.wrap n] := by simp [PV.els, pu]
      have hf2 : Jk [PV.ro 5 z f b, PV.ro 5 false true [PV.sc (Value.int IntKind.u8 (IntKind.u8.wrap n))]] = b ++ pu .u8 [IntKind.u8.wrap n] := by simp [PV.els, pu]
      have he : (b ++ pu .u8 [IntKind.u8.wrap n]).isEmpty = false := by simp
      have hlen : (b ++ pu .u8 [IntKind.u8.wrap n]).length = b.length + 1 := by simp
      unfold Jq8
      simp only [hf, hf2, List.take_length, List.drop_zero, List.take_succ_cons, List.take_zero, he, hlen, Ent.nil]
      rw [Jb (by simp; omega)]
      exact hr
    exact Qo Jr JmF Js Ju2 Ju3 JhC [] 0 0 (Ju1 0) hl rfl ((Jx7 0 z f b n k).trans hg)
  · cases hr
noncomputable def Jc5 : List PV → List Ent → (Res → Option Res) → Option Res
  | [.ro 5 z f b, .sc (.string s)], [], k => bif slB z b && Nat.ble s.size 65535 then k ⟨.ow 5 16 [] 0 (b.length + (s.size + 2)) none, [], [.vec false 5 false (b ++ pu .u8 (Qg s))]⟩ else none
  | _, _, _ => none
noncomputable def Jya : Sig := { own := [], run := Jc5 }
theorem Jva : Ji tau Try.prog 98 Jya := Ji.mk' fun xs es k res hl hr => by
  change Jc5 xs es k = some res at hr
  unfold Jc5 at hr
  split at hr
  · rename_i z f b s
    obtain ⟨hc, hr⟩ := JI hr
    rw [Bool.and_eq_true, Nat.ble_eq] at hc
    obtain ⟨h1, h2⟩ := QZ.1 hc.1
    have hg : Jq9 0 z f b s k = some res := by
      have hm : Qm (zi s.size) 65535 = (s.size : Int) := by unfold Qm; rw [if_neg (by simp only [zi]; omega)]
      unfold Jq9
      simp only [hm, Int.toNat_natCast, Jey]
      have hf : ∀ x y : Bool, Jk [PV.ro 5 z f b, PV.ro 5 false x [PV.sc (Value.int IntKind.u8 (IntKind.u8.wrap (zi s.size))), PV.sc (Value.int IntKind.u8 (IntKind.u8.wrap (Jx IntKind.i64 (zi s.size) 8)))], PV.ro 5 false y (List.take s.size (Jn s))] = b ++ pu .u8 (Qg s) := by
        intro x y
        rw [Q9, List.take_of_length_le (by simp), Q2, XO]
        simp [PV.els, pu]
      have he : (b ++ pu .u8 (Qg s)).isEmpty = false := by
        rw [Q2, XO]; simp
      have hlen : (b ++ pu .u8 (Qg s)).length = b.length + (s.size + 2) := by simp
      simp only [hf, List.take_length, List.drop_zero, List.take_succ_cons, List.take_zero, he, hlen, Ent.nil]
      rw [Jb (by simp), Jb (by simp [Jj]; omega), Jb (by simp; omega)]
      exact hr
    exact Qo Jr JmG Js Ju7 Ju8 JhD [] 0 0 (Ju6 0) hl rfl ((Jx8 0 z f b s k).trans hg)
  · cases hr
end Go.Proofs.Ytcklhipdldpkhaa.Rx
