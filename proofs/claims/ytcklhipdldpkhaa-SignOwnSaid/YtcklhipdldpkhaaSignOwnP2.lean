/- What the functions of this law compute, and their plain laws. Conditions: none. -/
import Derived.KernelRfl
import Derived.Test.YtcklhipdldpkhaaSignOwnP1
namespace Go.Proofs.Ytcklhipdldpkhaa.Rx
open Go
set_option linter.unusedVariables false
set_option linter.unusedSimpArgs false
set_option maxRecDepth 100000
set_option maxHeartbeats 0
-- FN slices.Insert[[][]byte,[]byte]
theorem Jvo (els : List PV) (n : Nat) (hn : els.length = n + 1) (hb : n ≤ 1000000000) (c : Nat) (hc : n + 1 ≤ c) (x : PV) :
    ∃ r, Jrs 0 false (els ++ List.replicate (c - (n + 1)) .top) n c x some = some r ∧ ∃ p0 p1, r = ⟨.ro 29 false false (x :: els), [p0, p1], []⟩ := by
  have h1 : IntKind.i64.wrap (zi (n + 1) + zi 1) = ((n + 2 : Nat) : Int) := by simp only [zi]; rw [wrap_i64 (by omega) (by omega)]; omega
  have h2 : IntKind.i64.wrap (((n + 2 : Nat) : Int) - 0) = ((n + 2 : Nat) : Int) := by rw [wrap_i64 (by omega) (by omega)]; omega
  have h3 : (((n + 2 : Nat) : Int)).toNat = n + 2 := by omega
  have hL : (els ++ List.replicate (c - (n + 1)) PV.top).length = c := by simp; omega
  have hB : ∀ a b, a < b → Nat.blt a b = true := fun a b h => by rw [Nat.blt, Nat.ble_eq]; exact h
  unfold Jrs
  simp only [h1, h2, h3, Option.getD_some, Option.getD_none, Nat.sub_zero, Nat.zero_add, List.nil_append]
  have hbt : ∀ {c : Bool} {a b : Option Res} (h : c = true), (bif c then a else b) = a := fun h => Ja h
  by_cases hg : c < n + 2
  · obtain rfl : c = n + 1 := by omega
    have e0 : n + 1 - (n + 1) = 0 := by omega
    simp only [e0, List.replicate_zero, List.append_nil, List.length_append, List.length_take, List.length_drop, List.length_replicate, List.length_cons, List.length_nil]
    have t1 : List.take (n + 2) [x] = [x] := List.take_of_length_le (by simp)
    have t2 : List.take (n + 1) els = els := List.take_of_length_le (by omega)
    have t3 : List.take 1 ([x] ++ List.drop (min 1 (n + 2)) (List.replicate (n + 2) (PV.ro 5 true true []))) = [x] := by simp
    have hr : Jj (n + 2) 24 = true := by simp [Jj]; omega
    refine ⟨_, (hbt (by simp <;> omega)).trans ((hbt (by simp [zi] <;> omega)).trans ((hbt (by simp only [hr]; simp <;> omega)).trans ((hbt (by simp)).trans ((hbt (by simp <;> omega)).trans ((hbt (by simp <;> omega)).trans rfl))))), ?_⟩
    simp only [t1, t2, t3, hn]
    have t4 : List.take (n + 2 - 1) els = els := List.take_of_length_le (by omega)
    have t5 : List.drop (1 + min (min (n + 1) (n + 1)) (n + 2 - 1)) ([x] ++ List.drop (min 1 (n + 2)) (List.replicate (n + 2) (PV.ro 5 true true []))) = [] := List.drop_eq_nil_iff.2 (by simp; omega)
    rw [t4, t5]
    have t6 : List.take (n + 2) ([x] ++ els ++ []) = x :: els := by rw [List.take_of_length_le (by simp; omega)]; simp
    rw [t6]
    exact ⟨_, _, rfl⟩
  · have t1 : List.take (n + 2 - 1) (List.take (n + 2) (els ++ List.replicate (c - (n + 1)) PV.top)) = els := by
      rw [List.take_take, show min (n + 2 - 1) (n + 2) = els.length from by omega, List.take_left']
      rfl
    have t2 : (List.take (n + 2) (els ++ List.replicate (c - (n + 1)) PV.top)).length = n + 2 := by rw [List.length_take]; omega
    have t3 : List.take (n + 2) [x] = [x] := List.take_of_length_le (by simp)
    refine ⟨_, (hbt (by simp; omega)).trans ((JA (by simp [zi]; omega)).trans ((hbt (by simp; omega)).trans ((hbt (by simp; omega)).trans ((hbt (by rw [hB _ _ (by omega)]; rfl)).trans ((hbt (by simp; omega)).trans ((hbt (by simp; omega)).trans ((hbt (by simp; omega)).trans rfl))))))), ?_⟩
    simp only [t1, t2, t3]
    have hT : ∀ R : List PV, List.take (n + 2) ([x] ++ List.drop (min 1 (n + 2)) (List.take 1 (els ++ List.replicate (c - (n + 1)) PV.top) ++ els ++ R)) = x :: els := by
      intro R
      have hone : (List.take 1 (els ++ List.replicate (c - (n + 1)) PV.top)).length = 1 := by rw [List.length_take]; omega
      rw [show min 1 (n + 2) = 1 from by omega, List.append_assoc, List.drop_left' hone, ← List.append_assoc, List.take_left' (by simp; omega)]
      rfl
    rw [hT]
    exact ⟨_, _, rfl⟩
def Jdh : List PV → List Ent → (Res → Option Res) → Option Res
  | [.ow 29 0 [] 0 m none, .sc (.int .i64 0), .ow 29 1 [] 0 1 (some 1)], [.vec false 29 false els, .vec false 29 false [x]], k => bif decide (m = els.length) && decide (els.length ≤ 1000000000) then k ⟨.ro 29 false false (x :: els), [.dead, .dead], []⟩ else none
  | [.ro 29 true true [], .sc (.int .i64 0), .ow 29 0 [] 0 1 (some 1)], [.vec false 29 false [x]], k => k ⟨.ro 29 false false [x], [.vec false 29 false [x]], []⟩
  | _, _, _ => none
def Jpn : Sig := { own := [true, false, true], run := Jdh }
theorem Jks : tau.isPtr 29 = false := by kernel_rfl
theorem JrB : Jh tau Try.prog 140 Jpn := Jh.mk' fun xs es k res hl hr => by
  change Jdh xs es k = some res at hr
  unfold Jdh at hr
  split at hr
  · rename_i m els x
    obtain ⟨hc, hr2⟩ := JH hr
    simp only [Bool.and_eq_true, decide_eq_true_eq] at hc
    obtain ⟨rfl, hb⟩ := hc
    by_cases h0 : els = []
    · subst h0
      have h1 := (Jvn 0 false x some)
      have h2 := Ql Jq Jkr Jr Jrz JrA Jdg [.ro] 2 0 (Jry 0) hl rfl h1
      obtain ⟨r0, hr0, hc0⟩ := h2
      obtain rfl := Option.some.inj hr0
      refine ⟨_, hr2, fun im ow w us hus hi => (hc0 im ow w us hus hi).mono fun e w' hR => ?_⟩
      obtain ⟨u, im', ow', he, hv, G⟩ := hR
      refine ⟨u, im', ow', he, hv, ?_⟩
      have K := Good.kill (i := 1) (e := .vec false 29 false [x]) G.inv rfl
      have e1 : JL (JF [Ent.dead, .vec false 29 false [x]] []) 1 .dead = JF [.dead, .dead] [] := by
        funext i
        match i with
        | 0 => rfl
        | 1 => rfl
        | i + 2 => simp [JL, JF]
      rw [e1] at K
      exact G.trans K
    · obtain ⟨n, hn⟩ : ∃ n, els.length = n + 1 := ⟨els.length - 1, by have : 0 < els.length := List.length_pos_iff.2 h0; omega⟩
      refine JqQ Jq (by omega) Jks Jks hr2 fun c hc => ?_
      obtain ⟨r, hg, p0, p1, rfl⟩ := Jvo els n hn (by omega) c (by omega) x
      rw [hn]
      generalize els ++ List.replicate (c - (n + 1)) PV.top = L at hg ⊢
      refine ⟨p0, p1, ?_⟩
      have h1 := (Jzi 0 false L n c x some).trans hg
      exact Ql Jq Jm2 Jr Jpj Jpk JhY [.ro] 2 0 (Jvi 0) hl rfl h1
  · rename_i x
    exact Ql Jq Jkq Jr Jrv Jrw Jdf [.ro] 1 0 (Jru 0) hl rfl ((Jvl 0 x k).trans hr)
  · cases hr
noncomputable def Jvp : Fns := F0
theorem Jm3 : Jx tau Try.prog Jvp := JE
def Jm4 : Nm := [(0, .any), (2, .any), (3, .any), (5, .any)]
def JrC : An := (.seq .leaf (.seq (.cond .leaf .leaf) (.seq (.block none (.seq .leaf .leaf)) .leaf)))
def JhZ : An := (.seq .leaf (.seq .leaf (.seq (.seq .leaf (.block none (.loop Jm4 JrC))) (.seq .leaf .leaf))))
noncomputable def Jvq (f : Nat) (x : Int) (k : Res → Option Res) : Option Res := k (Res.mk (.ar 190 [.sc (.int .u8 x), .sc (.int .u8 x), .sc (.int .u8 x), .sc (.int .u8 x), .sc (.int .u8 x), .sc (.int .u8 x), .sc (.int .u8 x), .sc (.int .u8 x), .sc (.int .u8 x), .sc (.int .u8 x), .sc (.int .u8 x), .sc (.int .u8 x), .sc (.int .u8 x), .sc (.int .u8 x), .sc (.int .u8 x), .sc (.int .u8 x), .sc (.int .u8 x), .sc (.int .u8 x), .sc (.int .u8 x), .sc (.int .u8 x), .sc (.int .u8 x), .sc (.int .u8 x), .sc (.int .u8 x), .sc (.int .u8 x), .sc (.int .u8 x), .sc (.int .u8 x), .sc (.int .u8 x), .sc (.int .u8 x), .sc (.int .u8 x), .sc (.int .u8 x), .sc (.int .u8 x), .sc (.int .u8 x), .sc (.int .u8 x), .sc (.int .u8 x), .sc (.int .u8 x), .sc (.int .u8 x), .sc (.int .u8 x), .sc (.int .u8 x), .sc (.int .u8 x), .sc (.int .u8 x), .sc (.int .u8 x), .sc (.int .u8 x), .sc (.int .u8 x), .sc (.int .u8 x), .sc (.int .u8 x), .sc (.int .u8 x), .sc (.int .u8 x), .sc (.int .u8 x), .sc (.int .u8 x), .sc (.int .u8 x), .sc (.int .u8 x), .sc (.int .u8 x), .sc (.int .u8 x), .sc (.int .u8 x), .sc (.int .u8 x), .sc (.int .u8 x), .sc (.int .u8 x), .sc (.int .u8 x), .sc (.int .u8 x), .sc (.int .u8 x), .sc (.int .u8 x), .sc (.int .u8 x), .sc (.int .u8 x), .sc (.int .u8 x)]) [] [])
theorem Jzj (f : Nat) (x : Int) (k : Res → Option Res) : JM tau Jvp Try.f159 (Try.f159.body.get!) JhZ [.ro] 70 [.sc (.int .u8 x)] [] k = Jvq f x k := by kernel_rfl
theorem Jvr (f : Nat) : Jg (Try.f159.body.get!) JhZ = [] := by kernel_rfl
theorem Jvs (f : Nat) : ∀ q ∈ Jg (Try.f159.body.get!) JhZ, q.Ok tau Try.prog 0 := by
  rw [Jvr f]; intro q hq; cases hq
theorem Jpo : Try.prog.funcs[159]? = some Try.f159 := by kernel_rfl
theorem Jpp : Try.f159.body = some (Try.f159.body.get!) := by kernel_rfl
theorem Jvt : Enters Try.prog 159 := enters_of Jpo (by kernel_rfl) Jpp
noncomputable def Jgx : List PV → List Ent → (Res → Option Res) → Option Res
  | [.sc (.int .u8 x)], [], k => Jvq 0 x k
  | _, _, _ => none
noncomputable def Jvu : Sig := { own := [], run := Jgx }
theorem Jvv : Jh tau Try.prog 159 Jvu := JY Jq Jm3 Jr Jpo Jpp JhZ [.ro] 0 [] Jgx (Jvs 0) fun xs es k res hr => by
  unfold Jgx at hr
  split at hr
  · exact ⟨rfl, 70, (Jzj 0 _  _).trans hr⟩
  · cases hr
def JbF : Nat := 26
noncomputable def Jkt : Fns := JG 159 Jvu (F0)
theorem Jh0 : Jx tau Try.prog Jkt := (JE).add Jvv Jvt
noncomputable def Gt : Code := Qs (Try.f141.body.get!) [1, 1, 1, 0, 1, 0, 0]
def Ww : Nm := [(2, .any), (5, .any), (13, .any)]
def W4 : Nm := [(5, .any)]
def Jba : An := (.seq .leaf (.seq (.cond .leaf .leaf) (.seq (.block none (.seq .leaf .leaf)) .leaf)))
def Jh1 (r0 : QZ) : An := (.seq .leaf (.seq .leaf (.seq (.seq .leaf (.cond (.seq .leaf .leaf) .leaf)) (.seq (.seq .leaf (.block none (.sum Ww JbF r0))) (.seq .leaf .leaf)))))
noncomputable def YW (f : Nat) (rc : Int → List PV → List PV → Option Res) (k0 : List PV → Option Res) (v0 : Int) (v1 : List PV) (v2 : List PV) : Option Res := bif decide (v0 < 64) then bif decide (0 ≤ v0) && decide (v0 < zi 64) && true then bif PV.isInt IntKind.u8 (Jk (PV.ar 190 v2) [v0.toNat]) && true then bif decide (0 ≤ v0) && decide (v0 < zi 64) && true then bif PV.isInt IntKind.u8 (Jk (PV.ar 190 v1) [v0.toNat]) && true then bif decide (0 ≤ v0) && decide (v0 < zi 64) && true then rc (IntKind.i64.wrap (v0 + 1)) v1 (v2.set v0.toNat (.sc (.int .u8 (JC BinOp.xor IntKind.u8 (Jk (PV.ar 190 v2) [v0.toNat]).int (Jk (PV.ar 190 v1) [v0.toNat]).int)))) else none else none else none else none else none else k0 v2
noncomputable def W5 (f : Nat) (k0 : List PV → Option Res) : Nat → Int → List PV → List PV → Option Res
  | 0, _, _, _ => none
  | n + 1, v0, v1, v2 => YW f (W5 f k0 n) k0 v0 v1 v2
theorem Jku (f : Nat) (k : Kont) (n : Nat) (v0 : Int) (v1 : List PV) (v2 : List PV) : Jo tau 0 Ww (fun s k => ev tau Jkt 0 0 Gt (Jba ) s k) (n + 1) (Jc Ww JbF [.ptr 432 [], .ptr 433 [], .sc (.int .i64 v0)] [(432, .box false 190 (PV.ar 190 v1)), (433, .box false 190 (PV.ar 190 v2))]) (Jv tau 0 W4 k) = YW f (fun v0 v1 v2 => Jo tau 0 Ww (fun s k => ev tau Jkt 0 0 Gt (Jba ) s k) n (Jc Ww JbF [.ptr 432 [], .ptr 433 [], .sc (.int .i64 v0)] [(432, .box false 190 (PV.ar 190 v1)), (433, .box false 190 (PV.ar 190 v2))]) (Jv tau 0 W4 k)) (fun x0 => k (Ex.exit 0) (Jc W4 JbF [.ptr 432 []] [(432, .box false 190 (PV.ar 190 x0))])) v0 v1 v2 := by kernel_rfl
theorem JeV (f : Nat) (k : Kont) : ∀ (n : Nat) (v0 : Int) (v1 : List PV) (v2 : List PV), Jo tau 0 Ww (fun s k => ev tau Jkt 0 0 Gt (Jba ) s k) n (Jc Ww JbF [.ptr 432 [], .ptr 433 [], .sc (.int .i64 v0)] [(432, .box false 190 (PV.ar 190 v1)), (433, .box false 190 (PV.ar 190 v2))]) (Jv tau 0 W4 k) = W5 f (fun x0 => k (Ex.exit 0) (Jc W4 JbF [.ptr 432 []] [(432, .box false 190 (PV.ar 190 x0))])) n v0 v1 v2 | 0, _, _, _ => rfl | n + 1, v0, v1, v2 => (Jku f k n v0 v1 v2).trans (congrArg (fun r => YW f r (fun x0 => k (Ex.exit 0) (Jc W4 JbF [.ptr 432 []] [(432, .box false 190 (PV.ar 190 x0))])) v0 v1 v2) (by funext v0 v1 v2; exact JeV f k n v0 v1 v2))
noncomputable def ZX (f : Nat) : List PV → List (Nat × Ent) → Kont → Option Res
  | [.ptr 432 [], .ptr 433 [],
  PV.sc
    (Value.int IntKind.i64
      v0)], [(432, .box false 190 (PV.ar 190 v1)),
  (433, .box false 190 (PV.ar 190 v2))], k => W5 f (fun x0 => k (Ex.exit 0) (Jc W4 JbF [.ptr 432 []] [(432, .box false 190 (PV.ar 190 x0))])) f v0 v1 v2
  | _, _, _ => none
theorem Jm5 (f : Nat) : Jg Gt Jba = [] := by kernel_rfl
theorem JrD (f : Nat) : (Item.l Gt Ww JbF (ZX f)).Ok tau Try.prog 0 := JJ Jq Jh0 Jr (x := Jba) (nm2 := W4) (Jp _ _ (by rw [Jm5 f]; intro q hq; cases hq)) fun vs hp k res hr => by
  unfold ZX at hr
  split at hr
  · exact ⟨f, 0, (JeV f _ f _ _ _ ).trans hr⟩
  · cases hr
noncomputable def Jm6 (f : Nat) (k1 : List PV) (x : Int) (k : Res → Option Res) : Option Res := bif decide (k1.length = 64) && true && Je IntKind.u8 k1 && true && true then bif Qy k1 [.sc (.int .u8 0), .sc (.int .u8 0), .sc (.int .u8 0), .sc (.int .u8 0), .sc (.int .u8 0), .sc (.int .u8 0), .sc (.int .u8 0), .sc (.int .u8 0), .sc (.int .u8 0), .sc (.int .u8 0), .sc (.int .u8 0), .sc (.int .u8 0), .sc (.int .u8 0), .sc (.int .u8 0), .sc (.int .u8 0), .sc (.int .u8 0), .sc (.int .u8 0), .sc (.int .u8 0), .sc (.int .u8 0), .sc (.int .u8 0), .sc (.int .u8 0), .sc (.int .u8 0), .sc (.int .u8 0), .sc (.int .u8 0), .sc (.int .u8 0), .sc (.int .u8 0), .sc (.int .u8 0), .sc (.int .u8 0), .sc (.int .u8 0), .sc (.int .u8 0), .sc (.int .u8 0), .sc (.int .u8 0), .sc (.int .u8 0), .sc (.int .u8 0), .sc (.int .u8 0), .sc (.int .u8 0), .sc (.int .u8 0), .sc (.int .u8 0), .sc (.int .u8 0), .sc (.int .u8 0), .sc (.int .u8 0), .sc (.int .u8 0), .sc (.int .u8 0), .sc (.int .u8 0), .sc (.int .u8 0), .sc (.int .u8 0), .sc (.int .u8 0), .sc (.int .u8 0), .sc (.int .u8 0), .sc (.int .u8 0), .sc (.int .u8 0), .sc (.int .u8 0), .sc (.int .u8 0), .sc (.int .u8 0), .sc (.int .u8 0), .sc (.int .u8 0), .sc (.int .u8 0), .sc (.int .u8 0), .sc (.int .u8 0), .sc (.int .u8 0), .sc (.int .u8 0), .sc (.int .u8 0), .sc (.int .u8 0), .sc (.int .u8 0)] then k (Res.mk (.ro 5 false false [.sc (.int .u8 x), .sc (.int .u8 x), .sc (.int .u8 x), .sc (.int .u8 x), .sc (.int .u8 x), .sc (.int .u8 x), .sc (.int .u8 x), .sc (.int .u8 x), .sc (.int .u8 x), .sc (.int .u8 x), .sc (.int .u8 x), .sc (.int .u8 x), .sc (.int .u8 x), .sc (.int .u8 x), .sc (.int .u8 x), .sc (.int .u8 x), .sc (.int .u8 x), .sc (.int .u8 x), .sc (.int .u8 x), .sc (.int .u8 x), .sc (.int .u8 x), .sc (.int .u8 x), .sc (.int .u8 x), .sc (.int .u8 x), .sc (.int .u8 x), .sc (.int .u8 x), .sc (.int .u8 x), .sc (.int .u8 x), .sc (.int .u8 x), .sc (.int .u8 x), .sc (.int .u8 x), .sc (.int .u8 x), .sc (.int .u8 x), .sc (.int .u8 x), .sc (.int .u8 x), .sc (.int .u8 x), .sc (.int .u8 x), .sc (.int .u8 x), .sc (.int .u8 x), .sc (.int .u8 x), .sc (.int .u8 x), .sc (.int .u8 x), .sc (.int .u8 x), .sc (.int .u8 x), .sc (.int .u8 x), .sc (.int .u8 x), .sc (.int .u8 x), .sc (.int .u8 x), .sc (.int .u8 x), .sc (.int .u8 x), .sc (.int .u8 x), .sc (.int .u8 x), .sc (.int .u8 x), .sc (.int .u8 x), .sc (.int .u8 x), .sc (.int .u8 x), .sc (.int .u8 x), .sc (.int .u8 x), .sc (.int .u8 x), .sc (.int .u8 x), .sc (.int .u8 x), .sc (.int .u8 x), .sc (.int .u8 x), .sc (.int .u8 x)]) [] []) else W5 f (fun x0_0 => k (Res.mk (.ro 5 false false (List.take 64 x0_0)) [] [])) f (0) k1 ([.sc (.int .u8 x), .sc (.int .u8 x), .sc (.int .u8 x), .sc (.int .u8 x), .sc (.int .u8 x), .sc (.int .u8 x), .sc (.int .u8 x), .sc (.int .u8 x), .sc (.int .u8 x), .sc (.int .u8 x), .sc (.int .u8 x), .sc (.int .u8 x), .sc (.int .u8 x), .sc (.int .u8 x), .sc (.int .u8 x), .sc (.int .u8 x), .sc (.int .u8 x), .sc (.int .u8 x), .sc (.int .u8 x), .sc (.int .u8 x), .sc (.int .u8 x), .sc (.int .u8 x), .sc (.int .u8 x), .sc (.int .u8 x), .sc (.int .u8 x), .sc (.int .u8 x), .sc (.int .u8 x), .sc (.int .u8 x), .sc (.int .u8 x), .sc (.int .u8 x), .sc (.int .u8 x), .sc (.int .u8 x), .sc (.int .u8 x), .sc (.int .u8 x), .sc (.int .u8 x), .sc (.int .u8 x), .sc (.int .u8 x), .sc (.int .u8 x), .sc (.int .u8 x), .sc (.int .u8 x), .sc (.int .u8 x), .sc (.int .u8 x), .sc (.int .u8 x), .sc (.int .u8 x), .sc (.int .u8 x), .sc (.int .u8 x), .sc (.int .u8 x), .sc (.int .u8 x), .sc (.int .u8 x), .sc (.int .u8 x), .sc (.int .u8 x), .sc (.int .u8 x), .sc (.int .u8 x), .sc (.int .u8 x), .sc (.int .u8 x), .sc (.int .u8 x), .sc (.int .u8 x), .sc (.int .u8 x), .sc (.int .u8 x), .sc (.int .u8 x), .sc (.int .u8 x), .sc (.int .u8 x), .sc (.int .u8 x), .sc (.int .u8 x)]) else none
theorem Jzk (f : Nat) (k1 : List PV) (x : Int) (k : Res → Option Res) : JM tau Jkt Try.f141 (Try.f141.body.get!) (Jh1 (ZX f)) [.ro] 0 [.ar 190 k1, .sc (.int .u8 x)] [] k = Jm6 f k1 x k := by kernel_rfl
theorem Jvw (f : Nat) : Jg (Try.f141.body.get!) (Jh1 (ZX f)) = [.l Gt Ww JbF (ZX f)] := by kernel_rfl
theorem Jvx (f : Nat) : ∀ q ∈ Jg (Try.f141.body.get!) (Jh1 (ZX f)), q.Ok tau Try.prog 0 := by
  rw [Jvw f]; simp only [List.forall_mem_cons, List.not_mem_nil, false_implies, implies_true, and_true]; exact JrD f
theorem Jpq : Try.prog.funcs[141]? = some Try.f141 := by kernel_rfl
theorem Jpr : Try.f141.body = some (Try.f141.body.get!) := by kernel_rfl
theorem Jvy : Enters Try.prog 141 := enters_of Jpq (by kernel_rfl) Jpr
-- FN (hmac.block).turned
def JQ (l : List Int) (x : Int) : List Int := l.map fun b => JC .xor .u8 b x
@[simp] theorem JeW (l : List Int) (x : Int) : (JQ l x).length = l.length := by simp [JQ]
theorem JeX (K : List Int) (hK : K.length = 64) (x : Int) : (List.range 64).map (fun j => JC .xor .u8 x (K.getD j 0)) = JQ K x := by
  apply List.ext_getElem
  · simp [hK]
  · intro i h1 h2
    have h1' : i < K.length := by simpa using h2
    simp only [List.getElem_map, List.getElem_range, JQ]
    rw [ZJ, List.getD_eq_getElem?_getD, List.getElem?_eq_getElem h1']; rfl
theorem Jkv (K : List Int) (hK : K.length = 64) (x : Int) (f : Nat) (k0 : List PV → Option Res) : ∀ (d i n : Nat), i + d = 64 → d < n →
    W5 f k0 n (i : Int) (pu .u8 K) (pu .u8 (Qn (fun j => JC .xor .u8 x (K.getD j 0)) (List.replicate 64 x) i)) = k0 (pu .u8 (JQ K x))
  | 0, i, n + 1, h, hn => by
      obtain rfl : i = 64 := by omega
      simp only [W5, YW]
      refine (JA (by decide)).trans ?_
      have := QK (fun j => JC .xor .u8 x (K.getD j 0)) (List.replicate 64 x)
      rw [List.length_replicate] at this
      rw [this, JeX K hK]
  | d + 1, i, n + 1, h, hn => by
      have g1 : ((i : Int)).toNat = i := by omega
      have h1 : IntKind.i64.wrap ((i : Int) + 1) = ((i + 1 : Nat) : Int) := by rw [wrap_i64 (by omega) (by omega)]; omega
      have c0 : (decide (0 ≤ (i : Int)) && decide ((i : Int) < zi 64) && true) = true := by simp; omega
      have hF := XO (fun j => JC .xor .u8 x (K.getD j 0)) (List.replicate 64 x) i (by simp; omega)
      rw [List.length_replicate] at hF
      simp only [W5, YW, g1, h1, Wr]
      rw [JU (by omega), JU (by omega), Qj (by omega), Qj (by omega), Gp _ _ _ (by simp; omega), Wk]
      refine (Ja (by simp; omega)).trans ((Ja c0).trans ((Ja rfl).trans ((Ja c0).trans ((Ja rfl).trans ((Ja c0).trans ?_)))))
      have := Jkv K hK x f k0 d (i + 1) n (by omega) (by omega)
      rw [← Qk _ _ i (by simp; omega)] at this
      rw [show (List.replicate 64 x).getD i 0 = x from by rw [List.getD_eq_getElem?_getD, List.getElem?_replicate, if_pos (by omega)]; rfl]
      exact this
theorem Jvz : JQ (List.replicate 64 0) 54 = List.replicate 64 54 ∧ JQ (List.replicate 64 0) 92 = List.replicate 64 92 := by
  have h1 : JC .xor .u8 0 54 = 54 := by decide
  have h2 : JC .xor .u8 0 92 = 92 := by decide
  simp only [JQ, List.map_replicate, h1, h2, and_self]
theorem Jjh (l : List PV) (x : Int) (k : Res → Option Res) : Jm6 70 l x k =
    (bif decide (l.length = 64) && true && Je IntKind.u8 l && true && true then
      (bif Qy l (pu .u8 (List.replicate 64 0)) then k ⟨.ro 5 false false (pu .u8 (List.replicate 64 x)), [], []⟩
      else W5 70 (fun x0_0 => k (Res.mk (PV.ro 5 false false (List.take 64 x0_0)) [] [])) 70 0 l (pu .u8 (List.replicate 64 x)))
    else none) := by kernel_rfl
theorem Jm7 (K : List Int) (hK : K.length = 64) (x : Int) (hx : x = 54 ∨ x = 92) (k : Res → Option Res) : Jm6 70 (pu .u8 K) x k = k ⟨.ro 5 false false (pu .u8 (JQ K x)), [], []⟩ := by
  have h0 := Jkv K hK x 70 (fun x0_0 => k (Res.mk (PV.ro 5 false false (List.take 64 x0_0)) [] [])) 64 0 70 (by omega) (by omega)
  rw [Qt, List.take_of_length_le (by simp [hK])] at h0
  rw [Jjh, Ja (by simp [hK]), Xq]
  by_cases hk : K = List.replicate 64 0
  · have h1 : JQ K x = List.replicate 64 x := by
      rw [hk]
      rcases hx with h | h
      · rw [h]; exact Jvz.1
      · rw [h]; exact Jvz.2
    rw [Ja (beq_iff_eq.2 hk), h1]
  · rw [JA (beq_eq_false_iff_ne.2 hk)]
    exact h0
def Jdi : List PV → List Ent → (Res → Option Res) → Option Res
  | [.ar 190 l, .sc (.int .u8 x)], [], k => bif Je .u8 l && decide (l.length = 64) && (x == 54 || x == 92) then k ⟨.ro 5 false false (pu .u8 (JQ (Jf l) x)), [], []⟩ else none
  | _, _, _ => none
def Jps : Sig := { own := [], run := Jdi }
theorem JrE : Jh tau Try.prog 141 Jps := Jh.mk' fun xs es k res hl hr => by
  change Jdi xs es k = some res at hr
  unfold Jdi at hr
  split at hr
  · rename_i l x
    obtain ⟨hc, hr2⟩ := JH hr
    simp only [Bool.and_eq_true, decide_eq_true_eq, Bool.or_eq_true, beq_iff_eq] at hc
    have hp := Qb hc.1.1
    have h2 : Jm6 70 l x k = some res := by
      rw [hp, Jm7 _ (by simpa using hc.1.2) x hc.2]; exact hr2
    have h1 := (Jzk 70 l x k).trans h2
    exact Ql Jq Jh0 Jr Jpq Jpr (Jh1 (ZX 70)) [.ro] 0 0 (Jvx 70) hl rfl h1
  · cases hr
noncomputable abbrev z80 : List PV := [PV.sc (.int .u8 0), PV.sc (.int .u8 0), PV.sc (.int .u8 0), PV.sc (.int .u8 0), PV.sc (.int .u8 0), PV.sc (.int .u8 0), PV.sc (.int .u8 0), PV.sc (.int .u8 0), PV.sc (.int .u8 0), PV.sc (.int .u8 0), PV.sc (.int .u8 0), PV.sc (.int .u8 0), PV.sc (.int .u8 0), PV.sc (.int .u8 0), PV.sc (.int .u8 0), PV.sc (.int .u8 0), PV.sc (.int .u8 0), PV.sc (.int .u8 0), PV.sc (.int .u8 0), PV.sc (.int .u8 0), PV.sc (.int .u8 0), PV.sc (.int .u8 0), PV.sc (.int .u8 0), PV.sc (.int .u8 0), PV.sc (.int .u8 0), PV.sc (.int .u8 0), PV.sc (.int .u8 0), PV.sc (.int .u8 0), PV.sc (.int .u8 0), PV.sc (.int .u8 0), PV.sc (.int .u8 0), PV.sc (.int .u8 0), PV.sc (.int .u8 0), PV.sc (.int .u8 0), PV.sc (.int .u8 0), PV.sc (.int .u8 0), PV.sc (.int .u8 0), PV.sc (.int .u8 0), PV.sc (.int .u8 0), PV.sc (.int .u8 0), PV.sc (.int .u8 0), PV.sc (.int .u8 0), PV.sc (.int .u8 0), PV.sc (.int .u8 0), PV.sc (.int .u8 0), PV.sc (.int .u8 0), PV.sc (.int .u8 0), PV.sc (.int .u8 0), PV.sc (.int .u8 0), PV.sc (.int .u8 0), PV.sc (.int .u8 0), PV.sc (.int .u8 0), PV.sc (.int .u8 0), PV.sc (.int .u8 0), PV.sc (.int .u8 0), PV.sc (.int .u8 0), PV.sc (.int .u8 0), PV.sc (.int .u8 0), PV.sc (.int .u8 0), PV.sc (.int .u8 0), PV.sc (.int .u8 0), PV.sc (.int .u8 0), PV.sc (.int .u8 0), PV.sc (.int .u8 0)]
noncomputable def F80 : Fns := JG 141 Jps (JG 140 Jpn (JG 136 Jve (JG 27 Ju7 (F0))))
theorem JrF : Jx tau Try.prog F80 := ((((JE).add Ju8 Jzg).add Jvf Jvd).add JrB Jvj).add JrE Jvy
def Jm8 : An := (.seq .leaf (.seq (.seq .leaf (.cond (.seq .leaf .leaf) .leaf)) (.seq .leaf (.seq .leaf (.seq .leaf (.seq .leaf .leaf))))))
noncomputable def g80 (f : Nat) (key_z : Bool) (key_f : Bool) (key : List PV) (parts_z : Bool) (parts_f : Bool) (parts : List PV) (k : Res → Option Res) : Option Res := bif decide (zi key.length > 64) then bif Je IntKind.u8 (Jl [PV.ro 5 key_z key_f key]) && decide ((Jl [PV.ro 5 key_z key_f key]).length ≤ 140737488355000) then bif parts_z then bif Je IntKind.u8 (List.take 64 (List.take 32 (pu IntKind.u8 (Jy (Jf (Jl [PV.ro 5 key_z key_f key]))))) ++ List.drop (0 + min (List.take 32 (pu IntKind.u8 (Jy (Jf (Jl [PV.ro 5 key_z key_f key]))))).length 64) z80) && decide ((List.take 64 (List.take 32 (pu IntKind.u8 (Jy (Jf (Jl [PV.ro 5 key_z key_f key]))))) ++ List.drop (0 + min (List.take 32 (pu IntKind.u8 (Jy (Jf (Jl [PV.ro 5 key_z key_f key]))))).length 64) z80).length = 64) && true then bif Je IntKind.u8 (Jl [PV.ro 5 false false (pu IntKind.u8 (JQ (Jf (List.take 64 (List.take 32 (pu IntKind.u8 (Jy (Jf (Jl [PV.ro 5 key_z key_f key]))))) ++ List.drop (0 + min (List.take 32 (pu IntKind.u8 (Jy (Jf (Jl [PV.ro 5 key_z key_f key]))))).length 64) z80)) 54))]) && decide ((Jl [PV.ro 5 false false (pu IntKind.u8 (JQ (Jf (List.take 64 (List.take 32 (pu IntKind.u8 (Jy (Jf (Jl [PV.ro 5 key_z key_f key]))))) ++ List.drop (0 + min (List.take 32 (pu IntKind.u8 (Jy (Jf (Jl [PV.ro 5 key_z key_f key]))))).length 64) z80)) 54))]).length ≤ 140737488355000) then bif Je IntKind.u8 (List.take 64 (List.take 32 (pu IntKind.u8 (Jy (Jf (Jl [PV.ro 5 key_z key_f key]))))) ++ List.drop (0 + min (List.take 32 (pu IntKind.u8 (Jy (Jf (Jl [PV.ro 5 key_z key_f key]))))).length 64) z80) && decide ((List.take 64 (List.take 32 (pu IntKind.u8 (Jy (Jf (Jl [PV.ro 5 key_z key_f key]))))) ++ List.drop (0 + min (List.take 32 (pu IntKind.u8 (Jy (Jf (Jl [PV.ro 5 key_z key_f key]))))).length 64) z80).length = 64) && true then bif Je IntKind.u8 (Jl [PV.ro 5 false false (pu IntKind.u8 (JQ (Jf (List.take 64 (List.take 32 (pu IntKind.u8 (Jy (Jf (Jl [PV.ro 5 key_z key_f key]))))) ++ List.drop (0 + min (List.take 32 (pu IntKind.u8 (Jy (Jf (Jl [PV.ro 5 key_z key_f key]))))).length 64) z80)) 92)), PV.ro 5 false false (List.take 32 (pu IntKind.u8 (Jy (Jf (Jl [PV.ro 5 false false (pu IntKind.u8 (JQ (Jf (List.take 64 (List.take 32 (pu IntKind.u8 (Jy (Jf (Jl [PV.ro 5 key_z key_f key]))))) ++ List.drop (0 + min (List.take 32 (pu IntKind.u8 (Jy (Jf (Jl [PV.ro 5 key_z key_f key]))))).length 64) z80)) 54))])))))]) && decide ((Jl [PV.ro 5 false false (pu IntKind.u8 (JQ (Jf (List.take 64 (List.take 32 (pu IntKind.u8 (Jy (Jf (Jl [PV.ro 5 key_z key_f key]))))) ++ List.drop (0 + min (List.take 32 (pu IntKind.u8 (Jy (Jf (Jl [PV.ro 5 key_z key_f key]))))).length 64) z80)) 92)), PV.ro 5 false false (List.take 32 (pu IntKind.u8 (Jy (Jf (Jl [PV.ro 5 false false (pu IntKind.u8 (JQ (Jf (List.take 64 (List.take 32 (pu IntKind.u8 (Jy (Jf (Jl [PV.ro 5 key_z key_f key]))))) ++ List.drop (0 + min (List.take 32 (pu IntKind.u8 (Jy (Jf (Jl [PV.ro 5 key_z key_f key]))))).length 64) z80)) 54))])))))]).length ≤ 140737488355000) then k (Res.mk (PV.ar 37 (pu IntKind.u8 (Jy (Jf (Jl [PV.ro 5 false false (pu IntKind.u8 (JQ (Jf (List.take 64 (List.take 32 (pu IntKind.u8 (Jy (Jf (Jl [PV.ro 5 key_z key_f key]))))) ++ List.drop (0 + min (List.take 32 (pu IntKind.u8 (Jy (Jf (Jl [PV.ro 5 key_z key_f key]))))).length 64) z80)) 92)), PV.ro 5 false false (List.take 32 (pu IntKind.u8 (Jy (Jf (Jl [PV.ro 5 false false (pu IntKind.u8 (JQ (Jf (List.take 64 (List.take 32 (pu IntKind.u8 (Jy (Jf (Jl [PV.ro 5 key_z key_f key]))))) ++ List.drop (0 + min (List.take 32 (pu IntKind.u8 (Jy (Jf (Jl [PV.ro 5 key_z key_f key]))))).length 64) z80)) 54))])))))]))))) [] []) else none else none else none else none else bif Jj (0 + parts.length) 24 && true then bif Je IntKind.u8 (List.take 64 (List.take 32 (pu IntKind.u8 (Jy (Jf (Jl [PV.ro 5 key_z key_f key]))))) ++ List.drop (0 + min (List.take 32 (pu IntKind.u8 (Jy (Jf (Jl [PV.ro 5 key_z key_f key]))))).length 64) z80) && decide ((List.take 64 (List.take 32 (pu IntKind.u8 (Jy (Jf (Jl [PV.ro 5 key_z key_f key]))))) ++ List.drop (0 + min (List.take 32 (pu IntKind.u8 (Jy (Jf (Jl [PV.ro 5 key_z key_f key]))))).length 64) z80).length = 64) && true then bif decide (0 + parts.length = parts.length) && decide (parts.length ≤ 1000000000) then bif parts.all (PV.isRo 5) && decide ((PV.ro 5 false false (pu IntKind.u8 (JQ (Jf (List.take 64 (List.take 32 (pu IntKind.u8 (Jy (Jf (Jl [PV.ro 5 key_z key_f key]))))) ++ List.drop (0 + min (List.take 32 (pu IntKind.u8 (Jy (Jf (Jl [PV.ro 5 key_z key_f key]))))).length 64) z80)) 54)) :: parts).length ≤ 140737488355328) && (Je IntKind.u8 (Jl (PV.ro 5 false false (pu IntKind.u8 (JQ (Jf (List.take 64 (List.take 32 (pu IntKind.u8 (Jy (Jf (Jl [PV.ro 5 key_z key_f key]))))) ++ List.drop (0 + min (List.take 32 (pu IntKind.u8 (Jy (Jf (Jl [PV.ro 5 key_z key_f key]))))).length 64) z80)) 54)) :: parts)) && decide ((Jl (PV.ro 5 false false (pu IntKind.u8 (JQ (Jf (List.take 64 (List.take 32 (pu IntKind.u8 (Jy (Jf (Jl [PV.ro 5 key_z key_f key]))))) ++ List.drop (0 + min (List.take 32 (pu IntKind.u8 (Jy (Jf (Jl [PV.ro 5 key_z key_f key]))))).length 64) z80)) 54)) :: parts)).length ≤ 140737488355000)) then bif Je IntKind.u8 (List.take 64 (List.take 32 (pu IntKind.u8 (Jy (Jf (Jl [PV.ro 5 key_z key_f key]))))) ++ List.drop (0 + min (List.take 32 (pu IntKind.u8 (Jy (Jf (Jl [PV.ro 5 key_z key_f key]))))).length 64) z80) && decide ((List.take 64 (List.take 32 (pu IntKind.u8 (Jy (Jf (Jl [PV.ro 5 key_z key_f key]))))) ++ List.drop (0 + min (List.take 32 (pu IntKind.u8 (Jy (Jf (Jl [PV.ro 5 key_z key_f key]))))).length 64) z80).length = 64) && true then bif Je IntKind.u8 (Jl [PV.ro 5 false false (pu IntKind.u8 (JQ (Jf (List.take 64 (List.take 32 (pu IntKind.u8 (Jy (Jf (Jl [PV.ro 5 key_z key_f key]))))) ++ List.drop (0 + min (List.take 32 (pu IntKind.u8 (Jy (Jf (Jl [PV.ro 5 key_z key_f key]))))).length 64) z80)) 92)), PV.ro 5 false false (List.take 32 (pu IntKind.u8 (Jy (Jf (Jl (PV.ro 5 false false (pu IntKind.u8 (JQ (Jf (List.take 64 (List.take 32 (pu IntKind.u8 (Jy (Jf (Jl [PV.ro 5 key_z key_f key]))))) ++ List.drop (0 + min (List.take 32 (pu IntKind.u8 (Jy (Jf (Jl [PV.ro 5 key_z key_f key]))))).length 64) z80)) 54)) :: parts))))))]) && decide ((Jl [PV.ro 5 false false (pu IntKind.u8 (JQ (Jf (List.take 64 (List.take 32 (pu IntKind.u8 (Jy (Jf (Jl [PV.ro 5 key_z key_f key]))))) ++ List.drop (0 + min (List.take 32 (pu IntKind.u8 (Jy (Jf (Jl [PV.ro 5 key_z key_f key]))))).length 64) z80)) 92)), PV.ro 5 false false (List.take 32 (pu IntKind.u8 (Jy (Jf (Jl (PV.ro 5 false false (pu IntKind.u8 (JQ (Jf (List.take 64 (List.take 32 (pu IntKind.u8 (Jy (Jf (Jl [PV.ro 5 key_z key_f key]))))) ++ List.drop (0 + min (List.take 32 (pu IntKind.u8 (Jy (Jf (Jl [PV.ro 5 key_z key_f key]))))).length 64) z80)) 54)) :: parts))))))]).length ≤ 140737488355000) then k (Res.mk (PV.ar 37 (pu IntKind.u8 (Jy (Jf (Jl [PV.ro 5 false false (pu IntKind.u8 (JQ (Jf (List.take 64 (List.take 32 (pu IntKind.u8 (Jy (Jf (Jl [PV.ro 5 key_z key_f key]))))) ++ List.drop (0 + min (List.take 32 (pu IntKind.u8 (Jy (Jf (Jl [PV.ro 5 key_z key_f key]))))).length 64) z80)) 92)), PV.ro 5 false false (List.take 32 (pu IntKind.u8 (Jy (Jf (Jl (PV.ro 5 false false (pu IntKind.u8 (JQ (Jf (List.take 64 (List.take 32 (pu IntKind.u8 (Jy (Jf (Jl [PV.ro 5 key_z key_f key]))))) ++ List.drop (0 + min (List.take 32 (pu IntKind.u8 (Jy (Jf (Jl [PV.ro 5 key_z key_f key]))))).length 64) z80)) 54)) :: parts))))))]))))) [] []) else none else none else none else none else none else none else none else bif parts_z then bif Je IntKind.u8 (List.take 64 key ++ List.drop (0 + min key.length 64) z80) && decide ((List.take 64 key ++ List.drop (0 + min key.length 64) z80).length = 64) && true then bif Je IntKind.u8 (Jl [PV.ro 5 false false (pu IntKind.u8 (JQ (Jf (List.take 64 key ++ List.drop (0 + min key.length 64) z80)) 54))]) && decide ((Jl [PV.ro 5 false false (pu IntKind.u8 (JQ (Jf (List.take 64 key ++ List.drop (0 + min key.length 64) z80)) 54))]).length ≤ 140737488355000) then bif Je IntKind.u8 (List.take 64 key ++ List.drop (0 + min key.length 64) z80) && decide ((List.take 64 key ++ List.drop (0 + min key.length 64) z80).length = 64) && true then bif Je IntKind.u8 (Jl [PV.ro 5 false false (pu IntKind.u8 (JQ (Jf (List.take 64 key ++ List.drop (0 + min key.length 64) z80)) 92)), PV.ro 5 false false (List.take 32 (pu IntKind.u8 (Jy (Jf (Jl [PV.ro 5 false false (pu IntKind.u8 (JQ (Jf (List.take 64 key ++ List.drop (0 + min key.length 64) z80)) 54))])))))]) && decide ((Jl [PV.ro 5 false false (pu IntKind.u8 (JQ (Jf (List.take 64 key ++ List.drop (0 + min key.length 64) z80)) 92)), PV.ro 5 false false (List.take 32 (pu IntKind.u8 (Jy (Jf (Jl [PV.ro 5 false false (pu IntKind.u8 (JQ (Jf (List.take 64 key ++ List.drop (0 + min key.length 64) z80)) 54))])))))]).length ≤ 140737488355000) then k (Res.mk (PV.ar 37 (pu IntKind.u8 (Jy (Jf (Jl [PV.ro 5 false false (pu IntKind.u8 (JQ (Jf (List.take 64 key ++ List.drop (0 + min key.length 64) z80)) 92)), PV.ro 5 false false (List.take 32 (pu IntKind.u8 (Jy (Jf (Jl [PV.ro 5 false false (pu IntKind.u8 (JQ (Jf (List.take 64 key ++ List.drop (0 + min key.length 64) z80)) 54))])))))]))))) [] []) else none else none else none else none else bif Jj (0 + parts.length) 24 && true then bif Je IntKind.u8 (List.take 64 key ++ List.drop (0 + min key.length 64) z80) && decide ((List.take 64 key ++ List.drop (0 + min key.length 64) z80).length = 64) && true then bif decide (0 + parts.length = parts.length) && decide (parts.length ≤ 1000000000) then bif parts.all (PV.isRo 5) && decide ((PV.ro 5 false false (pu IntKind.u8 (JQ (Jf (List.take 64 key ++ List.drop (0 + min key.length 64) z80)) 54)) :: parts).length ≤ 140737488355328) && (Je IntKind.u8 (Jl (PV.ro 5 false false (pu IntKind.u8 (JQ (Jf (List.take 64 key ++ List.drop (0 + min key.length 64) z80)) 54)) :: parts)) && decide ((Jl (PV.ro 5 false false (pu IntKind.u8 (JQ (Jf (List.take 64 key ++ List.drop (0 + min key.length 64) z80)) 54)) :: parts)).length ≤ 140737488355000)) then bif Je IntKind.u8 (List.take 64 key ++ List.drop (0 + min key.length 64) z80) && decide ((List.take 64 key ++ List.drop (0 + min key.length 64) z80).length = 64) && true then bif Je IntKind.u8 (Jl [PV.ro 5 false false (pu IntKind.u8 (JQ (Jf (List.take 64 key ++ List.drop (0 + min key.length 64) z80)) 92)), PV.ro 5 false false (List.take 32 (pu IntKind.u8 (Jy (Jf (Jl (PV.ro 5 false false (pu IntKind.u8 (JQ (Jf (List.take 64 key ++ List.drop (0 + min key.length 64) z80)) 54)) :: parts))))))]) && decide ((Jl [PV.ro 5 false false (pu IntKind.u8 (JQ (Jf (List.take 64 key ++ List.drop (0 + min key.length 64) z80)) 92)), PV.ro 5 false false (List.take 32 (pu IntKind.u8 (Jy (Jf (Jl (PV.ro 5 false false (pu IntKind.u8 (JQ (Jf (List.take 64 key ++ List.drop (0 + min key.length 64) z80)) 54)) :: parts))))))]).length ≤ 140737488355000) then k (Res.mk (PV.ar 37 (pu IntKind.u8 (Jy (Jf (Jl [PV.ro 5 false false (pu IntKind.u8 (JQ (Jf (List.take 64 key ++ List.drop (0 + min key.length 64) z80)) 92)), PV.ro 5 false false (List.take 32 (pu IntKind.u8 (Jy (Jf (Jl (PV.ro 5 false false (pu IntKind.u8 (JQ (Jf (List.take 64 key ++ List.drop (0 + min key.length 64) z80)) 54)) :: parts))))))]))))) [] []) else none else none else none else none else none else none
theorem e80 (f : Nat) (key_z : Bool) (key_f : Bool) (key : List PV) (parts_z : Bool) (parts_f : Bool) (parts : List PV) (k : Res → Option Res) : JM tau F80 Try.f80 (Try.f80.body.get!) Jm8 [.ro] 0 [.ro 5 key_z key_f key, .ro 29 parts_z parts_f parts] [] k = g80 f key_z key_f key parts_z parts_f parts k := by kernel_rfl
theorem Jzl (f : Nat) : Jg (Try.f80.body.get!) Jm8 = [] := by kernel_rfl
theorem Jzm (f : Nat) : ∀ q ∈ Jg (Try.f80.body.get!) Jm8, q.Ok tau Try.prog 0 := by
  rw [Jzl f]; intro q hq; cases hq
theorem JvA : Try.prog.funcs[80]? = some Try.f80 := by kernel_rfl
theorem JvB : Try.f80.body = some (Try.f80.body.get!) := by kernel_rfl
theorem JrG : Enters Try.prog 80 := enters_of JvA (by kernel_rfl) JvB
noncomputable def Jkw : List PV → List Ent → (Res → Option Res) → Option Res
  | [.ro 5 key_z key_f key, .ro 29 parts_z parts_f parts], [], k => g80 0 key_z key_f key parts_z parts_f parts k
  | _, _, _ => none
noncomputable def s80 : Sig := { own := [], run := Jkw }
theorem Jzn : Jh tau Try.prog 80 s80 := JY Jq JrF Jr JvA JvB Jm8 [.ro] 0 [] Jkw (Jzm 0) fun xs es k res hr => by
  unfold Jkw at hr
  split at hr
  · exact ⟨rfl, 0, (e80 0 _ _ _ _ _ _  _).trans hr⟩
  · cases hr
-- FN hmac.Mac
theorem YX (a b : List PV) : Jf (a ++ b) = Jf a ++ Jf b := by simp [Jf]
@[simp] theorem JvC : Jf [] = [] := rfl
/-- a key, with noughts behind it -/
def Jji (s : List Int) : List Int := s ++ List.replicate (64 - s.length) 0
def VF (key : List Int) : List Int := if key.length > 64 then Jji (Jy key) else Jji key
def JeY (key text : List Int) : List Int := Jy (JQ (VF key) 92 ++ Jy (JQ (VF key) 54 ++ text))
noncomputable def Qw : List Int → List Int → List Int := hid JeY
theorem Jao (key text : List Int) : Qw key text = JeY key text := by rw [Qw, hid_eq]
theorem G0 (key text : List Int) : (Qw key text).length = 32 := by rw [Jao]; exact J2 _
theorem W6 (key : List Int) : (VF key).length = 64 := by
  unfold VF Jji
  split
  · rw [List.length_append, J2, List.length_replicate]
  · rw [List.length_append, List.length_replicate]; omega
def x54 (kb : List PV) : PV := .ro 5 false false (pu .u8 (JQ (Jf kb) 54))
def x92 (kb : List PV) : PV := .ro 5 false false (pu .u8 (JQ (Jf kb) 92))
def t32 (l : List PV) : PV := .ro 5 false false (List.take 32 (pu .u8 (Jy (Jf (Jl l)))))
def kbG (src : List PV) : List PV := [] ++ List.take 64 src ++ List.drop (0 + min src.length 64) (pu .u8 (List.replicate 64 0))
def VG (pz : Bool) (parts kb : List PV) (k : Res → Option Res) : Option Res :=
  bif pz then
    bif Je .u8 kb && decide (kb.length = 64) && true then
      bif Je .u8 (Jl [x54 kb]) && decide ((Jl [x54 kb]).length ≤ 140737488355000) then
        bif Je .u8 kb && decide (kb.length = 64) && true then
          bif Je .u8 (Jl [x92 kb, t32 [x54 kb]]) && decide ((Jl [x92 kb, t32 [x54 kb]]).length ≤ 140737488355000) then
            k ⟨.ar 37 (pu .u8 (Jy (Jf (Jl [x92 kb, t32 [x54 kb]])))), [], []⟩
          else none
        else none
      else none
    else none
  else bif Jj (0 + parts.length) 24 && true then
    bif Je .u8 kb && decide (kb.length = 64) && true then
      bif decide (0 + parts.length = ([] ++ parts).length) && decide (([] ++ parts).length ≤ 1000000000) then
        bif ([] ++ parts).all (PV.isRo 5) && decide ((x54 kb :: ([] ++ parts)).length ≤ 140737488355328) && (Je .u8 (Jl (x54 kb :: ([] ++ parts))) && decide ((Jl (x54 kb :: ([] ++ parts))).length ≤ 140737488355000)) then
          bif Je .u8 kb && decide (kb.length = 64) && true then
            bif Je .u8 (Jl [x92 kb, t32 (x54 kb :: ([] ++ parts))]) && decide ((Jl [x92 kb, t32 (x54 kb :: ([] ++ parts))]).length ≤ 140737488355000) then
              k ⟨.ar 37 (pu .u8 (Jy (Jf (Jl [x92 kb, t32 (x54 kb :: ([] ++ parts))])))), [], []⟩
            else none
          else none
        else none
      else none
    else none
  else none
theorem Jkx (kz kf : Bool) (key : List PV) (pz pf : Bool) (parts : List PV) (k : Res → Option Res) : g80 0 kz kf key pz pf parts k =
    (bif decide (zi key.length > 64) then
      bif Je .u8 (Jl [.ro 5 kz kf key]) && decide ((Jl [.ro 5 kz kf key]).length ≤ 140737488355000) then
        VG pz parts (kbG (List.take 32 (pu .u8 (Jy (Jf (Jl [.ro 5 kz kf key])))))) k
      else none
    else VG pz parts (kbG key) k) := by kernel_rfl
theorem Jdj (s : List Int) (h : s.length ≤ 64) : kbG (pu .u8 s) = pu .u8 (Jji s) := by
  unfold kbG Jji
  rw [JI, show 0 + min s.length 64 = s.length from by omega, Jhs, List.drop_replicate, List.take_of_length_le (by simpa using h), List.nil_append, ← JO]
theorem Jbb (K : List Int) (hK : K.length = 64) (pz : Bool) (parts : List PV) (hz : pz = true → parts = []) (h1 : parts.all (PV.isRo 5) = true) (h2 : parts.length ≤ 1000000) (h3 : Je .u8 (Jl parts) = true) (h4 : (Jl parts).length ≤ 1000000000) (k : Res → Option Res) :
    VG pz parts (pu .u8 K) k = k ⟨.ar 37 (pu .u8 (Jy (JQ K 92 ++ Jy (JQ K 54 ++ Jf (Jl parts))))), [], []⟩ := by
  have hk : (Je .u8 (pu .u8 K) && decide ((pu .u8 K).length = 64) && true) = true := by simp [hK]
  have e54 : x54 (pu .u8 K) = .ro 5 false false (pu .u8 (JQ K 54)) := by simp [x54]
  have e92 : x92 (pu .u8 K) = .ro 5 false false (pu .u8 (JQ K 92)) := by simp [x92]
  have hS : ∀ l : List Int, List.take 32 (pu .u8 (Jy l)) = pu .u8 (Jy l) := fun l => List.take_of_length_le (by simp [J2])
  cases pz with
  | true =>
    have := hz rfl; subst this
    have et : t32 [x54 (pu .u8 K)] = .ro 5 false false (pu .u8 (Jy (JQ K 54))) := by simp [t32, e54, PV.els, hS]
    unfold VG
    rw [cond_true, Ja hk, Ja (by simp [e54, PV.els, hK]), Ja hk, et, e92, Ja (by simp [PV.els, hK, QC, J2])]
    simp [PV.els, YX]
  | false =>
    have et : t32 (x54 (pu .u8 K) :: ([] ++ parts)) = .ro 5 false false (pu .u8 (Jy (JQ K 54 ++ Jf (Jl parts)))) := by
      rw [List.nil_append, t32, e54, Zt, hS]
      simp only [PV.els]
      rw [YX, Qv]
    unfold VG
    have hp : (pu IntKind.u8 K).length = 64 := by simp [hK]
    rw [cond_false, Ja (by simp [Jj]; omega), Ja hk, Ja (by simp; omega), Ja, Ja hk, et, e92, Ja (by simp [PV.els, hK, QC, J2])]
    · simp [PV.els, YX]
    · rw [e54]
      simp only [List.nil_append, Zt, PV.els, h1, QC, JV, h3, List.length_cons, List.length_append, JI, JeW, hK, Bool.true_and, Bool.and_true, Bool.and_eq_true, decide_eq_true_eq]
      omega
noncomputable def Jgy : List PV → List Ent → (Res → Option Res) → Option Res
  | [.ro 5 kz kf key, .ro 29 pz pf parts], [], k =>
    bif (Je .u8 key && decide (key.length ≤ 1000000000)) && ((parts.all (PV.isRo 5) && decide (parts.length ≤ 1000000)) && (Je .u8 (Jl parts) && decide ((Jl parts).length ≤ 1000000000))) && (!pz || parts.isEmpty) then
      k ⟨.ar 37 (pu .u8 (Qw (Jf key) (Jf (Jl parts)))), [], []⟩ else none
  | _, _, _ => none
noncomputable def Jm9 : Sig := { own := [], run := Jgy }
theorem JrH (kz kf : Bool) (key : List PV) (pz pf : Bool) (parts : List PV) (k : Res → Option Res) (a1 : Je .u8 key = true) (a2 : key.length ≤ 1000000000) (h1 : parts.all (PV.isRo 5) = true) (h2 : parts.length ≤ 1000000) (h3 : Je .u8 (Jl parts) = true) (h4 : (Jl parts).length ≤ 1000000000) (hz : pz = true → parts = []) :
    g80 0 kz kf key pz pf parts k = k ⟨.ar 37 (pu .u8 (Qw (Jf key) (Jf (Jl parts)))), [], []⟩ := by
  rw [Jkx, Jao, JeY]
  have hf : Jl [.ro 5 kz kf key] = key := by simp [PV.els]
  have hi := Qb a1
  by_cases hc : key.length > 64
  · rw [Ja (by simp [zi]; omega), hf, Ja (by simp [a1]; omega), List.take_of_length_le (by simp [J2]), Jdj _ (by rw [J2]; omega),
      Jbb _ (by rw [← W6 (Jf key), VF, if_pos (by simpa using hc)]) pz parts hz h1 h2 h3 h4, VF, if_pos (by simpa using hc)]
  · have hl : (Jf key).length ≤ 64 := by simp; omega
    rw [JA (by simp [zi]; omega), hi, Jdj _ hl, Qv, Jbb _ (by rw [← W6 (Jf key), VF, if_neg (by omega)]) pz parts hz h1 h2 h3 h4, VF, if_neg (by omega)]
theorem Jky : Jh tau Try.prog 80 Jm9 := Jzn.of fun xs es k res hr => by
  change Jgy xs es k = some res at hr
  unfold Jgy at hr
  split at hr
  · rename_i kz kf key pz pf parts
    obtain ⟨hc, hr⟩ := JH hr
    simp only [Bool.and_eq_true, decide_eq_true_eq, Bool.or_eq_true, Bool.not_eq_true', List.isEmpty_iff] at hc
    obtain ⟨⟨⟨a1, a2⟩, ⟨h1, h2⟩, h3, h4⟩, hz⟩ := hc
    exact (JrH kz kf key pz pf parts k a1 a2 h1 h2 h3 h4 (fun hp => hz.resolve_left (by rw [hp]; decide))).trans hr
  · cases hr

-- FN wire.Parse
structure PA where
  (l : List PV) (b : List PV)
def kOk (l : List PV) : Bool := Je .u8 l && decide (l.length ≤ 1000000000)
theorem Jna {z0 f0 z1 f1 z2 f2 : Bool} {k0 k1 k2 : List PV} (h0 : kOk k0 = true) (h1 : kOk k1 = true) (h2 : kOk k2 = true) (d : Int) : kOk (QD ⟨[.ro 5 z0 f0 k0, .ro 5 z1 f1 k1, .ro 5 z2 f2 k2], d⟩) = true := by
  rw [Jan]
  show kOk (WP _ d).els = true
  unfold WP
  cases h : QL d 2 with
  | false => rfl
  | true =>
    simp only [QL, Bool.and_eq_true, decide_eq_true_eq] at h
    have : d = 0 ∨ d = 1 ∨ d = 2 := by omega
    rcases this with rfl | rfl | rfl
    · exact h0
    · exact h1
    · exact h2
theorem Jzo : Try.prog.funcs[96]? = some Try.f96 := by kernel_rfl
theorem Jzp : Try.f96.body = some (Try.f96.body.get!) := by kernel_rfl
theorem JvD : Enters Try.prog 96 := enters_of Jzo (by kernel_rfl) Jzp
theorem Jzq : Try.prog.funcs[98]? = some Try.f98 := by kernel_rfl
theorem Jzr : Try.f98.body = some (Try.f98.body.get!) := by kernel_rfl
theorem JrI : Enters Try.prog 98 := enters_of Jzq (by kernel_rfl) Jzr
noncomputable def Jpt : Fns := F0
theorem Jkz : Jx tau Try.prog Jpt := JE
def Jdk : An := (.seq .leaf (.seq (.seq .leaf (.cond (.seq .leaf .leaf) .leaf)) (.seq .leaf .leaf)))
noncomputable def Jpu (f : Nat) (s_z : Bool) (s_f : Bool) (s : List PV) (k : Res → Option Res) : Option Res := bif s_z then k (Res.mk (.ro 5 true true []) [] []) else bif Jj (0 + s.length) 1 && true then k (Res.mk (.ow 5 16 [] 0 (0 + s.length) none) [] [.vec false 5 false s]) else none
theorem JvE (f : Nat) (s_z : Bool) (s_f : Bool) (s : List PV) (k : Res → Option Res) : JM tau Jpt Try.f131 (Try.f131.body.get!) Jdk [] 0 [.ro 5 s_z s_f s] [] k = Jpu f s_z s_f s k := by kernel_rfl
theorem JrJ (f : Nat) : Jg (Try.f131.body.get!) Jdk = [] := by kernel_rfl
theorem JrK (f : Nat) : ∀ q ∈ Jg (Try.f131.body.get!) Jdk, q.Ok tau Try.prog 0 := by
  rw [JrJ f]; intro q hq; cases hq
theorem JkA : Try.prog.funcs[131]? = some Try.f131 := by kernel_rfl
theorem JkB : Try.f131.body = some (Try.f131.body.get!) := by kernel_rfl
theorem JkC : Enters Try.prog 131 := enters_of JkA (by kernel_rfl) JkB
noncomputable def Jdl : List PV → List Ent → (Res → Option Res) → Option Res
  | [.ro 5 s_z s_f s], [], k => Jpu 0 s_z s_f s k
  | _, _, _ => none
noncomputable def JkD : Sig := { own := [], run := Jdl }
theorem JkE : Jh tau Try.prog 131 JkD := JY Jq Jkz Jr JkA JkB Jdk [] 0 [] Jdl (JrK 0) fun xs es k res hr => by
  unfold Jdl at hr
  split at hr
  · exact ⟨rfl, 0, (JvE 0 _ _ _  _).trans hr⟩
  · cases hr
noncomputable def F97 : Fns := JG 131 JkD (F0)
theorem JrL : Jx tau Try.prog F97 := (JE).add JkE JkC
def JrM : Nm := [(0, .any), (1, .any), (5, .own), (6, .any)]
def JvF : An := (.seq .leaf (.seq .leaf (.seq .leaf (.seq .leaf (.seq (.seq .leaf (.seq .leaf (.cond .leaf .leaf))) (.seq .leaf .leaf))))))
def Jnb : An := (.seq .leaf (.scope JrM JvF))
noncomputable def g97 (f : Nat) (b_z : Bool) (b_f : Bool) (b : List PV) (n : Int) (k : Res → Option Res) : Option Res := bif b_z then k (Res.mk (.ro 5 false false [.sc (.int .u8 (IntKind.u8.wrap (Jw IntKind.u64 (IntKind.u64.wrap n) (IntKind.i64.wrap (8 * 0))))), .sc (.int .u8 (IntKind.u8.wrap (Jw IntKind.u64 (IntKind.u64.wrap n) (IntKind.i64.wrap (8 * IntKind.i64.wrap (0 + 1)))))), .sc (.int .u8 (IntKind.u8.wrap (Jw IntKind.u64 (IntKind.u64.wrap n) (IntKind.i64.wrap (8 * IntKind.i64.wrap (IntKind.i64.wrap (0 + 1) + 1)))))), .sc (.int .u8 (IntKind.u8.wrap (Jw IntKind.u64 (IntKind.u64.wrap n) (IntKind.i64.wrap (8 * IntKind.i64.wrap (IntKind.i64.wrap (IntKind.i64.wrap (0 + 1) + 1) + 1)))))), .sc (.int .u8 (IntKind.u8.wrap (Jw IntKind.u64 (IntKind.u64.wrap n) (IntKind.i64.wrap (8 * IntKind.i64.wrap (IntKind.i64.wrap (IntKind.i64.wrap (IntKind.i64.wrap (0 + 1) + 1) + 1) + 1)))))), .sc (.int .u8 (IntKind.u8.wrap (Jw IntKind.u64 (IntKind.u64.wrap n) (IntKind.i64.wrap (8 * IntKind.i64.wrap (IntKind.i64.wrap (IntKind.i64.wrap (IntKind.i64.wrap (IntKind.i64.wrap (0 + 1) + 1) + 1) + 1) + 1)))))), .sc (.int .u8 (IntKind.u8.wrap (Jw IntKind.u64 (IntKind.u64.wrap n) (IntKind.i64.wrap (8 * IntKind.i64.wrap (IntKind.i64.wrap (IntKind.i64.wrap (IntKind.i64.wrap (IntKind.i64.wrap (IntKind.i64.wrap (0 + 1) + 1) + 1) + 1) + 1) + 1)))))), .sc (.int .u8 (IntKind.u8.wrap (Jw IntKind.u64 (IntKind.u64.wrap n) (IntKind.i64.wrap (8 * IntKind.i64.wrap (IntKind.i64.wrap (IntKind.i64.wrap (IntKind.i64.wrap (IntKind.i64.wrap (IntKind.i64.wrap (IntKind.i64.wrap (0 + 1) + 1) + 1) + 1) + 1) + 1) + 1))))))]) [] []) else bif Jj (0 + b.length) 1 && true then bif Jj (0 + b.length + 1) 1 && true then bif Jj (0 + b.length + 1 + 1) 1 && true then bif Jj (0 + b.length + 1 + 1 + 1) 1 && true then bif Jj (0 + b.length + 1 + 1 + 1 + 1) 1 && true then bif Jj (0 + b.length + 1 + 1 + 1 + 1 + 1) 1 && true then bif Jj (0 + b.length + 1 + 1 + 1 + 1 + 1 + 1) 1 && true then bif Jj (0 + b.length + 1 + 1 + 1 + 1 + 1 + 1 + 1) 1 && true then bif Jj (0 + b.length + 1 + 1 + 1 + 1 + 1 + 1 + 1 + 1) 1 && true then bif Jj (0 + (List.take (0 + b.length + 1 + 1 + 1 + 1 + 1 + 1 + 1 + 1) (List.take (0 + b.length + 1 + 1 + 1 + 1 + 1 + 1 + 1) (List.take (0 + b.length + 1 + 1 + 1 + 1 + 1 + 1) (List.take (0 + b.length + 1 + 1 + 1 + 1 + 1) (List.take (0 + b.length + 1 + 1 + 1 + 1) (List.take (0 + b.length + 1 + 1 + 1) (List.take (0 + b.length + 1 + 1) (List.take (0 + b.length + 1) (List.take (0 + b.length) b ++ [.sc (.int .u8 (IntKind.u8.wrap (Jw IntKind.u64 (IntKind.u64.wrap n) (IntKind.i64.wrap (8 * 0)))))]) ++ [.sc (.int .u8 (IntKind.u8.wrap (Jw IntKind.u64 (IntKind.u64.wrap n) (IntKind.i64.wrap (8 * IntKind.i64.wrap (0 + 1))))))]) ++ [.sc (.int .u8 (IntKind.u8.wrap (Jw IntKind.u64 (IntKind.u64.wrap n) (IntKind.i64.wrap (8 * IntKind.i64.wrap (IntKind.i64.wrap (0 + 1) + 1))))))]) ++ [.sc (.int .u8 (IntKind.u8.wrap (Jw IntKind.u64 (IntKind.u64.wrap n) (IntKind.i64.wrap (8 * IntKind.i64.wrap (IntKind.i64.wrap (IntKind.i64.wrap (0 + 1) + 1) + 1))))))]) ++ [.sc (.int .u8 (IntKind.u8.wrap (Jw IntKind.u64 (IntKind.u64.wrap n) (IntKind.i64.wrap (8 * IntKind.i64.wrap (IntKind.i64.wrap (IntKind.i64.wrap (IntKind.i64.wrap (0 + 1) + 1) + 1) + 1))))))]) ++ [.sc (.int .u8 (IntKind.u8.wrap (Jw IntKind.u64 (IntKind.u64.wrap n) (IntKind.i64.wrap (8 * IntKind.i64.wrap (IntKind.i64.wrap (IntKind.i64.wrap (IntKind.i64.wrap (IntKind.i64.wrap (0 + 1) + 1) + 1) + 1) + 1))))))]) ++ [.sc (.int .u8 (IntKind.u8.wrap (Jw IntKind.u64 (IntKind.u64.wrap n) (IntKind.i64.wrap (8 * IntKind.i64.wrap (IntKind.i64.wrap (IntKind.i64.wrap (IntKind.i64.wrap (IntKind.i64.wrap (IntKind.i64.wrap (0 + 1) + 1) + 1) + 1) + 1) + 1))))))]) ++ [.sc (.int .u8 (IntKind.u8.wrap (Jw IntKind.u64 (IntKind.u64.wrap n) (IntKind.i64.wrap (8 * IntKind.i64.wrap (IntKind.i64.wrap (IntKind.i64.wrap (IntKind.i64.wrap (IntKind.i64.wrap (IntKind.i64.wrap (IntKind.i64.wrap (0 + 1) + 1) + 1) + 1) + 1) + 1) + 1))))))])).length) 1 && true then k (Res.mk (.ro 5 false false (List.take (0 + (List.take (0 + b.length + 1 + 1 + 1 + 1 + 1 + 1 + 1 + 1) (List.take (0 + b.length + 1 + 1 + 1 + 1 + 1 + 1 + 1) (List.take (0 + b.length + 1 + 1 + 1 + 1 + 1 + 1) (List.take (0 + b.length + 1 + 1 + 1 + 1 + 1) (List.take (0 + b.length + 1 + 1 + 1 + 1) (List.take (0 + b.length + 1 + 1 + 1) (List.take (0 + b.length + 1 + 1) (List.take (0 + b.length + 1) (List.take (0 + b.length) b ++ [.sc (.int .u8 (IntKind.u8.wrap (Jw IntKind.u64 (IntKind.u64.wrap n) (IntKind.i64.wrap (8 * 0)))))]) ++ [.sc (.int .u8 (IntKind.u8.wrap (Jw IntKind.u64 (IntKind.u64.wrap n) (IntKind.i64.wrap (8 * IntKind.i64.wrap (0 + 1))))))]) ++ [.sc (.int .u8 (IntKind.u8.wrap (Jw IntKind.u64 (IntKind.u64.wrap n) (IntKind.i64.wrap (8 * IntKind.i64.wrap (IntKind.i64.wrap (0 + 1) + 1))))))]) ++ [.sc (.int .u8 (IntKind.u8.wrap (Jw IntKind.u64 (IntKind.u64.wrap n) (IntKind.i64.wrap (8 * IntKind.i64.wrap (IntKind.i64.wrap (IntKind.i64.wrap (0 + 1) + 1) + 1))))))]) ++ [.sc (.int .u8 (IntKind.u8.wrap (Jw IntKind.u64 (IntKind.u64.wrap n) (IntKind.i64.wrap (8 * IntKind.i64.wrap (IntKind.i64.wrap (IntKind.i64.wrap (IntKind.i64.wrap (0 + 1) + 1) + 1) + 1))))))]) ++ [.sc (.int .u8 (IntKind.u8.wrap (Jw IntKind.u64 (IntKind.u64.wrap n) (IntKind.i64.wrap (8 * IntKind.i64.wrap (IntKind.i64.wrap (IntKind.i64.wrap (IntKind.i64.wrap (IntKind.i64.wrap (0 + 1) + 1) + 1) + 1) + 1))))))]) ++ [.sc (.int .u8 (IntKind.u8.wrap (Jw IntKind.u64 (IntKind.u64.wrap n) (IntKind.i64.wrap (8 * IntKind.i64.wrap (IntKind.i64.wrap (IntKind.i64.wrap (IntKind.i64.wrap (IntKind.i64.wrap (IntKind.i64.wrap (0 + 1) + 1) + 1) + 1) + 1) + 1))))))]) ++ [.sc (.int .u8 (IntKind.u8.wrap (Jw IntKind.u64 (IntKind.u64.wrap n) (IntKind.i64.wrap (8 * IntKind.i64.wrap (IntKind.i64.wrap (IntKind.i64.wrap (IntKind.i64.wrap (IntKind.i64.wrap (IntKind.i64.wrap (IntKind.i64.wrap (0 + 1) + 1) + 1) + 1) + 1) + 1) + 1))))))])).length) (List.take (0 + b.length + 1 + 1 + 1 + 1 + 1 + 1 + 1 + 1) (List.take (0 + b.length + 1 + 1 + 1 + 1 + 1 + 1 + 1) (List.take (0 + b.length + 1 + 1 + 1 + 1 + 1 + 1) (List.take (0 + b.length + 1 + 1 + 1 + 1 + 1) (List.take (0 + b.length + 1 + 1 + 1 + 1) (List.take (0 + b.length + 1 + 1 + 1) (List.take (0 + b.length + 1 + 1) (List.take (0 + b.length + 1) (List.take (0 + b.length) b ++ [.sc (.int .u8 (IntKind.u8.wrap (Jw IntKind.u64 (IntKind.u64.wrap n) (IntKind.i64.wrap (8 * 0)))))]) ++ [.sc (.int .u8 (IntKind.u8.wrap (Jw IntKind.u64 (IntKind.u64.wrap n) (IntKind.i64.wrap (8 * IntKind.i64.wrap (0 + 1))))))]) ++ [.sc (.int .u8 (IntKind.u8.wrap (Jw IntKind.u64 (IntKind.u64.wrap n) (IntKind.i64.wrap (8 * IntKind.i64.wrap (IntKind.i64.wrap (0 + 1) + 1))))))]) ++ [.sc (.int .u8 (IntKind.u8.wrap (Jw IntKind.u64 (IntKind.u64.wrap n) (IntKind.i64.wrap (8 * IntKind.i64.wrap (IntKind.i64.wrap (IntKind.i64.wrap (0 + 1) + 1) + 1))))))]) ++ [.sc (.int .u8 (IntKind.u8.wrap (Jw IntKind.u64 (IntKind.u64.wrap n) (IntKind.i64.wrap (8 * IntKind.i64.wrap (IntKind.i64.wrap (IntKind.i64.wrap (IntKind.i64.wrap (0 + 1) + 1) + 1) + 1))))))]) ++ [.sc (.int .u8 (IntKind.u8.wrap (Jw IntKind.u64 (IntKind.u64.wrap n) (IntKind.i64.wrap (8 * IntKind.i64.wrap (IntKind.i64.wrap (IntKind.i64.wrap (IntKind.i64.wrap (IntKind.i64.wrap (0 + 1) + 1) + 1) + 1) + 1))))))]) ++ [.sc (.int .u8 (IntKind.u8.wrap (Jw IntKind.u64 (IntKind.u64.wrap n) (IntKind.i64.wrap (8 * IntKind.i64.wrap (IntKind.i64.wrap (IntKind.i64.wrap (IntKind.i64.wrap (IntKind.i64.wrap (IntKind.i64.wrap (0 + 1) + 1) + 1) + 1) + 1) + 1))))))]) ++ [.sc (.int .u8 (IntKind.u8.wrap (Jw IntKind.u64 (IntKind.u64.wrap n) (IntKind.i64.wrap (8 * IntKind.i64.wrap (IntKind.i64.wrap (IntKind.i64.wrap (IntKind.i64.wrap (IntKind.i64.wrap (IntKind.i64.wrap (IntKind.i64.wrap (0 + 1) + 1) + 1) + 1) + 1) + 1) + 1))))))])))) [] []) else none else none else none else none else none else none else none else none else none else none
theorem e97 (f : Nat) (b_z : Bool) (b_f : Bool) (b : List PV) (n : Int) (k : Res → Option Res) : JM tau F97 Try.f97 (Try.f97.body.get!) Jnb [.ro] 12 [.ro 5 b_z b_f b, .sc (.int .i64 n)] [] k = g97 f b_z b_f b n k := by kernel_rfl
theorem Jzs (f : Nat) : Jg (Try.f97.body.get!) Jnb = [] := by kernel_rfl
theorem Jzt (f : Nat) : ∀ q ∈ Jg (Try.f97.body.get!) Jnb, q.Ok tau Try.prog 0 := by
  rw [Jzs f]; intro q hq; cases hq
theorem JvG : Try.prog.funcs[97]? = some Try.f97 := by kernel_rfl
theorem JvH : Try.f97.body = some (Try.f97.body.get!) := by kernel_rfl
theorem JrN : Enters Try.prog 97 := enters_of JvG (by kernel_rfl) JvH
noncomputable def JvI : Fns := F0
theorem Jnc : Jx tau Try.prog JvI := JE
def Jh2 : An := (.seq .leaf (.seq .leaf .leaf))
noncomputable def Jzu (f : Nat) (n : Int) (k : Res → Option Res) : Option Res := k (Res.mk (.ow 5 16 [] 0 1 none) [] [.vec false 5 false [.sc (.int .u8 (IntKind.u8.wrap n))]])
theorem Jzv (f : Nat) (n : Int) (k : Res → Option Res) : JM tau JvI Try.f110 (Try.f110.body.get!) Jh2 [] 0 [.ro 5 true true [], .sc (.int .i64 n)] [] k = Jzu f n k := by kernel_rfl
theorem JvJ (f : Nat) : Jg (Try.f110.body.get!) Jh2 = [] := by kernel_rfl
theorem JvK (f : Nat) : ∀ q ∈ Jg (Try.f110.body.get!) Jh2, q.Ok tau Try.prog 0 := by
  rw [JvJ f]; intro q hq; cases hq
theorem Jpv : Try.prog.funcs[110]? = some Try.f110 := by kernel_rfl
theorem Jpw : Try.f110.body = some (Try.f110.body.get!) := by kernel_rfl
theorem Jpx : Enters Try.prog 110 := enters_of Jpv (by kernel_rfl) Jpw
noncomputable def Jpy : Fns := F0
theorem JkF : Jx tau Try.prog Jpy := JE
def Jdm : An := (.seq .leaf (.seq .leaf .leaf))
noncomputable def JkG (f : Nat) (nl : Bool) (l : List PV) (m : Nat) (n : Int) (k : Res → Option Res) : Option Res := bif Jj (m + 1) 1 && true then k (Res.mk (.ow 5 16 [] 0 (m + 1) none) [.dead] [.vec false 5 (nl && false) (List.take m l ++ [.sc (.int .u8 (IntKind.u8.wrap n))])]) else none
theorem JvL (f : Nat) (nl : Bool) (l : List PV) (m : Nat) (n : Int) (k : Res → Option Res) : JM tau Jpy Try.f110 (Try.f110.body.get!) Jdm [] 0 [.ow 5 0 [] 0 m none, .sc (.int .i64 n)] [.vec false 5 nl l] k = JkG f nl l m n k := by kernel_rfl
theorem JrO (f : Nat) : Jg (Try.f110.body.get!) Jdm = [] := by kernel_rfl
theorem JrP (f : Nat) : ∀ q ∈ Jg (Try.f110.body.get!) Jdm, q.Ok tau Try.prog 1 := by
  rw [JrO f]; intro q hq; cases hq
theorem JrQ : Try.prog.funcs[110]? = some Try.f110 := by kernel_rfl
theorem JrR : Try.f110.body = some (Try.f110.body.get!) := by kernel_rfl
noncomputable def JvM : Fns := F0
theorem Jnd : Jx tau Try.prog JvM := JE
def Jne : Nm := [(0, .own), (1, .any), (5, .any)]
def JrS : An := (.seq (.seq .leaf (.cond .leaf .leaf)) (.seq (.block none .leaf) .leaf))
def Jh3 : An := (.seq .leaf (.seq (.seq .leaf (.block none (.loop Jne JrS))) (.seq .leaf .leaf)))
noncomputable def JvN (f : Nat) (n : Int) (k : Res → Option Res) : Option Res := k (Res.mk (.ow 5 16 [] 0 8 none) [] [.vec false 5 false [.sc (.int .u8 (IntKind.u8.wrap (Jw IntKind.u64 (IntKind.u64.wrap n) (IntKind.u64.wrap (8 * IntKind.u64.wrap 0))))), .sc (.int .u8 (IntKind.u8.wrap (Jw IntKind.u64 (IntKind.u64.wrap n) (IntKind.u64.wrap (8 * IntKind.u64.wrap (IntKind.i64.wrap (0 + 1))))))), .sc (.int .u8 (IntKind.u8.wrap (Jw IntKind.u64 (IntKind.u64.wrap n) (IntKind.u64.wrap (8 * IntKind.u64.wrap (IntKind.i64.wrap (IntKind.i64.wrap (0 + 1) + 1))))))), .sc (.int .u8 (IntKind.u8.wrap (Jw IntKind.u64 (IntKind.u64.wrap n) (IntKind.u64.wrap (8 * IntKind.u64.wrap (IntKind.i64.wrap (IntKind.i64.wrap (IntKind.i64.wrap (0 + 1) + 1) + 1))))))), .sc (.int .u8 (IntKind.u8.wrap (Jw IntKind.u64 (IntKind.u64.wrap n) (IntKind.u64.wrap (8 * IntKind.u64.wrap (IntKind.i64.wrap (IntKind.i64.wrap (IntKind.i64.wrap (IntKind.i64.wrap (0 + 1) + 1) + 1) + 1))))))), .sc (.int .u8 (IntKind.u8.wrap (Jw IntKind.u64 (IntKind.u64.wrap n) (IntKind.u64.wrap (8 * IntKind.u64.wrap (IntKind.i64.wrap (IntKind.i64.wrap (IntKind.i64.wrap (IntKind.i64.wrap (IntKind.i64.wrap (0 + 1) + 1) + 1) + 1) + 1))))))), .sc (.int .u8 (IntKind.u8.wrap (Jw IntKind.u64 (IntKind.u64.wrap n) (IntKind.u64.wrap (8 * IntKind.u64.wrap (IntKind.i64.wrap (IntKind.i64.wrap (IntKind.i64.wrap (IntKind.i64.wrap (IntKind.i64.wrap (IntKind.i64.wrap (0 + 1) + 1) + 1) + 1) + 1) + 1))))))), .sc (.int .u8 (IntKind.u8.wrap (Jw IntKind.u64 (IntKind.u64.wrap n) (IntKind.u64.wrap (8 * IntKind.u64.wrap (IntKind.i64.wrap (IntKind.i64.wrap (IntKind.i64.wrap (IntKind.i64.wrap (IntKind.i64.wrap (IntKind.i64.wrap (IntKind.i64.wrap (0 + 1) + 1) + 1) + 1) + 1) + 1) + 1)))))))]])
theorem Jzw (f : Nat) (n : Int) (k : Res → Option Res) : JM tau JvM Try.f108 (Try.f108.body.get!) Jh3 [] 12 [.ro 5 true true [], .sc (.int .i64 n)] [] k = JvN f n k := by kernel_rfl
theorem JvO (f : Nat) : Jg (Try.f108.body.get!) Jh3 = [] := by kernel_rfl
theorem JvP (f : Nat) : ∀ q ∈ Jg (Try.f108.body.get!) Jh3, q.Ok tau Try.prog 0 := by
  rw [JvO f]; intro q hq; cases hq
theorem Jpz : Try.prog.funcs[108]? = some Try.f108 := by kernel_rfl
theorem JpA : Try.f108.body = some (Try.f108.body.get!) := by kernel_rfl
theorem JpB : Enters Try.prog 108 := enters_of Jpz (by kernel_rfl) JpA
noncomputable def JpC : Fns := F0
theorem JkH : Jx tau Try.prog JpC := JE
def JkI : Nm := [(0, .own), (1, .any), (5, .any)]
def Jnf : An := (.seq (.seq .leaf (.cond .leaf .leaf)) (.seq (.block none .leaf) .leaf))
def Jdn : An := (.seq .leaf (.seq (.seq .leaf (.block none (.loop JkI Jnf))) (.seq .leaf .leaf)))
noncomputable def JkJ (f : Nat) (nl : Bool) (l : List PV) (m : Nat) (n : Int) (k : Res → Option Res) : Option Res := bif Jj (m + 1) 1 && true then bif Jj (m + 1 + 1) 1 && true then bif Jj (m + 1 + 1 + 1) 1 && true then bif Jj (m + 1 + 1 + 1 + 1) 1 && true then bif Jj (m + 1 + 1 + 1 + 1 + 1) 1 && true then bif Jj (m + 1 + 1 + 1 + 1 + 1 + 1) 1 && true then bif Jj (m + 1 + 1 + 1 + 1 + 1 + 1 + 1) 1 && true then bif Jj (m + 1 + 1 + 1 + 1 + 1 + 1 + 1 + 1) 1 && true then k (Res.mk (.ow 5 16 [] 0 (m + 1 + 1 + 1 + 1 + 1 + 1 + 1 + 1) none) [.dead] [.vec false 5 (nl && false && false && false && false && false && false && false && false) (List.take (m + 1 + 1 + 1 + 1 + 1 + 1 + 1) (List.take (m + 1 + 1 + 1 + 1 + 1 + 1) (List.take (m + 1 + 1 + 1 + 1 + 1) (List.take (m + 1 + 1 + 1 + 1) (List.take (m + 1 + 1 + 1) (List.take (m + 1 + 1) (List.take (m + 1) (List.take m l ++ [.sc (.int .u8 (IntKind.u8.wrap (Jw IntKind.u64 (IntKind.u64.wrap n) (IntKind.u64.wrap (8 * IntKind.u64.wrap 0)))))]) ++ [.sc (.int .u8 (IntKind.u8.wrap (Jw IntKind.u64 (IntKind.u64.wrap n) (IntKind.u64.wrap (8 * IntKind.u64.wrap (IntKind.i64.wrap (0 + 1)))))))]) ++ [.sc (.int .u8 (IntKind.u8.wrap (Jw IntKind.u64 (IntKind.u64.wrap n) (IntKind.u64.wrap (8 * IntKind.u64.wrap (IntKind.i64.wrap (IntKind.i64.wrap (0 + 1) + 1)))))))]) ++ [.sc (.int .u8 (IntKind.u8.wrap (Jw IntKind.u64 (IntKind.u64.wrap n) (IntKind.u64.wrap (8 * IntKind.u64.wrap (IntKind.i64.wrap (IntKind.i64.wrap (IntKind.i64.wrap (0 + 1) + 1) + 1)))))))]) ++ [.sc (.int .u8 (IntKind.u8.wrap (Jw IntKind.u64 (IntKind.u64.wrap n) (IntKind.u64.wrap (8 * IntKind.u64.wrap (IntKind.i64.wrap (IntKind.i64.wrap (IntKind.i64.wrap (IntKind.i64.wrap (0 + 1) + 1) + 1) + 1)))))))]) ++ [.sc (.int .u8 (IntKind.u8.wrap (Jw IntKind.u64 (IntKind.u64.wrap n) (IntKind.u64.wrap (8 * IntKind.u64.wrap (IntKind.i64.wrap (IntKind.i64.wrap (IntKind.i64.wrap (IntKind.i64.wrap (IntKind.i64.wrap (0 + 1) + 1) + 1) + 1) + 1)))))))]) ++ [.sc (.int .u8 (IntKind.u8.wrap (Jw IntKind.u64 (IntKind.u64.wrap n) (IntKind.u64.wrap (8 * IntKind.u64.wrap (IntKind.i64.wrap (IntKind.i64.wrap (IntKind.i64.wrap (IntKind.i64.wrap (IntKind.i64.wrap (IntKind.i64.wrap (0 + 1) + 1) + 1) + 1) + 1) + 1)))))))]) ++ [.sc (.int .u8 (IntKind.u8.wrap (Jw IntKind.u64 (IntKind.u64.wrap n) (IntKind.u64.wrap (8 * IntKind.u64.wrap (IntKind.i64.wrap (IntKind.i64.wrap (IntKind.i64.wrap (IntKind.i64.wrap (IntKind.i64.wrap (IntKind.i64.wrap (IntKind.i64.wrap (0 + 1) + 1) + 1) + 1) + 1) + 1) + 1)))))))])]) else none else none else none else none else none else none else none else none
theorem JvQ (f : Nat) (nl : Bool) (l : List PV) (m : Nat) (n : Int) (k : Res → Option Res) : JM tau JpC Try.f108 (Try.f108.body.get!) Jdn [] 12 [.ow 5 0 [] 0 m none, .sc (.int .i64 n)] [.vec false 5 nl l] k = JkJ f nl l m n k := by kernel_rfl
theorem JrT (f : Nat) : Jg (Try.f108.body.get!) Jdn = [] := by kernel_rfl
theorem JrU (f : Nat) : ∀ q ∈ Jg (Try.f108.body.get!) Jdn, q.Ok tau Try.prog 1 := by
  rw [JrT f]; intro q hq; cases hq
theorem JrV : Try.prog.funcs[108]? = some Try.f108 := by kernel_rfl
theorem JrW : Try.f108.body = some (Try.f108.body.get!) := by kernel_rfl
noncomputable def JpD : Fns := F0
theorem JkK : Jx tau Try.prog JpD := JE
def Jdo : An := (.seq .leaf (.seq (.seq .leaf (.cond .leaf .leaf)) (.seq .leaf .leaf)))
noncomputable def JkL (f : Nat) (nl : Bool) (l : List PV) (m : Nat) (s : ByteArray) (k : Res → Option Res) : Option Res := bif decide (zi s.size > 65535) then bif decide (65535 ≤ s.size) && true then bif Jj (m + 2) 1 && true then bif Jj (m + 2 + (Jm (s.extract 0 65535)).length) 1 && true then k (Res.mk (.ow 5 16 [] 0 (m + 2 + (Jm (s.extract 0 65535)).length) none) [.dead] [.vec false 5 (nl && false && (Jm (s.extract 0 65535)).isEmpty) (List.take (m + 2) (List.take m l ++ [.sc (.int .u8 (IntKind.u8.wrap (zi (s.extract 0 65535).size))), .sc (.int .u8 (IntKind.u8.wrap (Jw IntKind.i64 (zi (s.extract 0 65535).size) 8)))]) ++ Jm (s.extract 0 65535))]) else none else none else none else bif Jj (m + 2) 1 && true then bif Jj (m + 2 + (Jm s).length) 1 && true then k (Res.mk (.ow 5 16 [] 0 (m + 2 + (Jm s).length) none) [.dead] [.vec false 5 (nl && false && (Jm s).isEmpty) (List.take (m + 2) (List.take m l ++ [.sc (.int .u8 (IntKind.u8.wrap (zi s.size))), .sc (.int .u8 (IntKind.u8.wrap (Jw IntKind.i64 (zi s.size) 8)))]) ++ Jm s)]) else none else none
theorem JvR (f : Nat) (nl : Bool) (l : List PV) (m : Nat) (s : ByteArray) (k : Res → Option Res) : JM tau JpD Try.f109 (Try.f109.body.get!) Jdo [] 0 [.ow 5 0 [] 0 m none, .sc (.string s)] [.vec false 5 nl l] k = JkL f nl l m s k := by kernel_rfl
theorem JrX (f : Nat) : Jg (Try.f109.body.get!) Jdo = [] := by kernel_rfl
theorem JrY (f : Nat) : ∀ q ∈ Jg (Try.f109.body.get!) Jdo, q.Ok tau Try.prog 1 := by
  rw [JrX f]; intro q hq; cases hq
theorem JkM : Try.prog.funcs[109]? = some Try.f109 := by kernel_rfl
theorem JkN : Try.f109.body = some (Try.f109.body.get!) := by kernel_rfl
theorem JrZ : Enters Try.prog 109 := enters_of JkM (by kernel_rfl) JkN
-- FN code.Byte | code.Text | code.Int | ref1.Byte | ref1.Int | ref1.Text
def ib (n i : Int) : Int := IntKind.u8.wrap (Jw .u64 (IntKind.u64.wrap n) (8 * i))
def Jh4 (n : Int) : List Int := [ib n 0, ib n 1, ib n 2, ib n 3, ib n 4, ib n 5, ib n 6, ib n 7]
noncomputable def J4 : Int → List Int := hid Jh4
theorem Wa (n : Int) : J4 n = Jh4 n := by rw [J4, hid_eq]
@[simp] theorem W7 (n : Int) : (J4 n).length = 8 := by rw [Wa]; rfl
/-- a text's bytes -/
def Jng (s : ByteArray) : List Int := s.data.toList.map fun b => (b.toNat : Int)
noncomputable def bsI : ByteArray → List Int := hid Jng
theorem Jbc (s : ByteArray) : bsI s = Jng s := by rw [bsI, hid_eq]
theorem Q6 (s : ByteArray) : Jm s = pu .u8 (bsI s) := by rw [Jbc]; simp [Jm, pu, Jng]
@[simp] theorem ZY (s : ByteArray) : (bsI s).length = s.size := by rw [Jbc]; simp [Jng]
theorem Jr0 (s : ByteArray) : ∀ x ∈ bsI s, 0 ≤ x ∧ x < 256 := by
  intro x hx
  rw [Jbc] at hx
  obtain ⟨b, _, rfl⟩ := List.mem_map.1 hx
  have := b.toNat_lt
  omega
noncomputable def XW (s : ByteArray) : List Int := [IntKind.u8.wrap (zi s.size), IntKind.u8.wrap (Jw .i64 (zi s.size) 8)] ++ bsI s
noncomputable def Qf : ByteArray → List Int := hid XW
theorem QY (s : ByteArray) : Qf s = XW s := by rw [Qf, hid_eq]
@[simp] theorem VH (s : ByteArray) : (Qf s).length = s.size + 2 := by rw [QY]; simp [XW]
theorem Zu (x : Int) : 0 ≤ IntKind.u8.wrap x ∧ IntKind.u8.wrap x < 256 := by rw [WN]; omega
theorem XX (n : Int) : ∀ x ∈ J4 n, 0 ≤ x ∧ x < 256 := by
  rw [Wa]; intro x hx
  simp only [Jh4, List.mem_cons, List.not_mem_nil, or_false] at hx
  rcases hx with h | h | h | h | h | h | h | h <;> (rw [h]; exact Zu _)
theorem JeZ (s : ByteArray) : ∀ x ∈ Qf s, 0 ≤ x ∧ x < 256 := by
  rw [QY]; intro x hx
  rcases List.mem_append.1 hx with hx | hx
  · simp only [List.mem_cons, List.not_mem_nil, or_false] at hx
    rcases hx with h | h <;> (rw [h]; exact Zu _)
  · exact Jr0 s x hx
theorem Jnh (f : Bool) (b : List PV) (n : Int) (k : Res → Option Res) : g97 0 true f b n k = k ⟨.ro 5 false false (pu .u8 (J4 n)), [], []⟩ := by
  rw [Wa]; kernel_rfl
theorem JvS (f : Bool) (b : List PV) (hb : b.length ≤ 1000000000) (n : Int) (k : Res → Option Res) : g97 0 false f b n k = k ⟨.ro 5 false false (b ++ pu .u8 (J4 n)), [], []⟩ := by
  rw [Wa]
  unfold g97
  refine (JA rfl).trans ?_
  repeat (refine (Ja (by simp [Jj]; omega)).trans ?_)
  repeat rw [List.take_of_length_le (by simp <;> omega)]
  simp only [List.nil_append, List.append_assoc]
  rfl
noncomputable def Jdp : List PV → List Ent → (Res → Option Res) → Option Res
  | [.ro 5 z f b, .sc (.int .i64 n)], [], k => bif slB z b then k ⟨.ro 5 false false (b ++ pu .u8 (J4 n)), [], []⟩ else none
  | _, _, _ => none
noncomputable def Jzx : Sig := { own := [], run := Jdp }
theorem JvT : Jh tau Try.prog 97 Jzx := Jh.mk' fun xs es k res hl hr => by
  change Jdp xs es k = some res at hr
  unfold Jdp at hr
  split at hr
  · rename_i z f b n
    obtain ⟨hc, hr2⟩ := JH hr
    clear hr
    obtain ⟨h1, h2⟩ := Q8.1 hc
    have hg : g97 0 z f b n k = some res := by
      cases z with
      | true => obtain rfl := h1 rfl; rw [Jnh]; exact hr2
      | false => rw [JvS f b h2]; exact hr2
    exact Ql Jq JrL Jr JvG JvH Jnb [.ro] 0 12 (Jzt 0) hl rfl ((e97 0 z f b n k).trans hg)
  · cases hr
theorem Je0 (s : ByteArray) : s.extract 0 s.size = s := by
  apply ByteArray.ext
  simp [ByteArray.data_extract]
noncomputable def VI : List PV → List Ent → (Res → Option Res) → Option Res
  | [.ro 5 true true [], .sc (.int .i64 n)], [], k => k ⟨.ow 5 16 [] 0 1 none, [], [.vec false 5 false (pu .u8 [IntKind.u8.wrap n])]⟩
  | [.ow 5 0 [] 0 m none, .sc (.int .i64 n)], [.vec false 5 nl l], k => bif Nat.beq m l.length && Nat.ble l.length 1000000000 then k ⟨.ow 5 16 [] 0 (m + 1) none, [.dead], [.vec false 5 false (l ++ pu .u8 [IntKind.u8.wrap n])]⟩ else none
  | _, _, _ => none
noncomputable def JvU : Sig := { own := [true], run := VI }
theorem Jr1 : Jh tau Try.prog 110 JvU := Jh.mk' fun xs es k res hl hr => by
  change VI xs es k = some res at hr
  unfold VI at hr
  split at hr
  · rename_i n
    exact Ql Jq Jnc Jr Jpv Jpw Jh2 [] 0 0 (JvK 0) hl rfl ((Jzv 0 n k).trans hr)
  · rename_i m n nl l
    obtain ⟨hc, hr⟩ := JH hr
    rw [Bool.and_eq_true, Nat.beq_eq, Nat.ble_eq] at hc
    obtain ⟨rfl, hc⟩ := hc
    have hg : JkG 0 nl l l.length n k = some res := by
      unfold JkG
      rw [Ja (by simp [Jj]; omega), List.take_length, Bool.and_false]
      exact hr
    exact Ql Jq JkF Jr JrQ JrR Jdm [] 1 0 (JrP 0) hl rfl ((JvL 0 nl l l.length n k).trans hg)
  · cases hr
noncomputable def VJ : List PV → List Ent → (Res → Option Res) → Option Res
  | [.ro 5 true true [], .sc (.int .i64 n)], [], k => k ⟨.ow 5 16 [] 0 8 none, [], [.vec false 5 false (pu .u8 (J4 n))]⟩
  | [.ow 5 0 [] 0 m none, .sc (.int .i64 n)], [.vec false 5 nl l], k => bif Nat.beq m l.length && Nat.ble l.length 1000000000 then k ⟨.ow 5 16 [] 0 (m + 8) none, [.dead], [.vec false 5 false (l ++ pu .u8 (J4 n))]⟩ else none
  | _, _, _ => none
noncomputable def JvV : Sig := { own := [true], run := VJ }
theorem JkO (n : Int) (k : Res → Option Res) : JvN 0 n k = k ⟨.ow 5 16 [] 0 8 none, [], [.vec false 5 false (pu .u8 (J4 n))]⟩ := by
  rw [Wa]; kernel_rfl
theorem JkP (nl : Bool) (l : List PV) (hl : l.length ≤ 1000000000) (n : Int) (k : Res → Option Res) : JkJ 0 nl l l.length n k = k ⟨.ow 5 16 [] 0 (l.length + 8) none, [.dead], [.vec false 5 false (l ++ pu .u8 (J4 n))]⟩ := by
  rw [Wa]
  unfold JkJ
  repeat (refine (Ja (by simp [Jj]; omega)).trans ?_)
  repeat rw [List.take_of_length_le (by simp <;> omega)]
  simp only [Bool.and_false, List.append_assoc]
  rfl
theorem JkQ : Jh tau Try.prog 108 JvV := Jh.mk' fun xs es k res hl hr => by
  change VJ xs es k = some res at hr
  unfold VJ at hr
  split at hr
  · rename_i n
    exact Ql Jq Jnd Jr Jpz JpA Jh3 [] 0 12 (JvP 0) hl rfl ((Jzw 0 n k).trans ((JkO n k).trans hr))
  · rename_i m n nl l
    obtain ⟨hc, hr⟩ := JH hr
    rw [Bool.and_eq_true, Nat.beq_eq, Nat.ble_eq] at hc
    obtain ⟨rfl, hc⟩ := hc
    exact Ql Jq JkH Jr JrV JrW Jdn [] 1 12 (JrU 0) hl rfl ((JvQ 0 nl l l.length n k).trans ((JkP nl l hc n k).trans hr))
  · cases hr
noncomputable def VK : List PV → List Ent → (Res → Option Res) → Option Res
  | [.ow 5 0 [] 0 m none, .sc (.string s)], [.vec false 5 nl l], k => bif Nat.beq m l.length && Nat.ble l.length 1000000000 && Nat.ble s.size 65535 then k ⟨.ow 5 16 [] 0 (m + (s.size + 2)) none, [.dead], [.vec false 5 false (l ++ pu .u8 (Qf s))]⟩ else none
  | _, _, _ => none
noncomputable def JvW : Sig := { own := [true], run := VK }
theorem Jr2 : Jh tau Try.prog 109 JvW := Jh.mk' fun xs es k res hl hr => by
  change VK xs es k = some res at hr
  unfold VK at hr
  split at hr
  · rename_i m s nl l
    obtain ⟨hc, hr⟩ := JH hr
    rw [Bool.and_eq_true, Bool.and_eq_true, Nat.beq_eq, Nat.ble_eq, Nat.ble_eq] at hc
    obtain ⟨⟨rfl, hc⟩, hs⟩ := hc
    have hg : JkL 0 nl l l.length s k = some res := by
      unfold JkL
      have hob : (Jm s).length = s.size := by rw [Q6]; simp
      rw [JA (by simp only [zi, decide_eq_false_iff_not]; omega), Ja (by simp [Jj]; omega), Ja (by simp [Jj, hob]; omega), List.take_length, List.take_of_length_le (by simp), hob, Bool.and_false, Bool.false_and]
      rw [QY, XW] at hr
      rw [Q6, show l.length + 2 + s.size = l.length + (s.size + 2) from by omega]
      simpa [pu] using hr
    exact Ql Jq JkK Jr JkM JkN Jdo [] 1 0 (JrY 0) hl rfl ((JvR 0 nl l l.length s k).trans hg)
  · cases hr
theorem G1 (n : Int) (i : Nat) (h : 8 * i < 64) : ib n i = (n % 18446744073709551616) / (2 ^ (8 * i)) % 256 := by
  unfold ib Jw
  rw [WN, QT]
  have : min (8 * (i : Int)).toNat IntKind.u64.bits = 8 * i := by
    show min _ 64 = _
    omega
  rw [this, Int.fdiv_eq_ediv_of_nonneg _ (Int.pow_nonneg (by decide))]
theorem Jjj (n : Int) : Xd (J4 n) = n % 18446744073709551616 := by
  rw [Wa]
  simp only [Jh4, Xd]
  have e0 : ib n 0 = n % 18446744073709551616 / 2 ^ (8 * 0) % 256 := G1 n 0 (by decide)
  have e1 : ib n 1 = n % 18446744073709551616 / 2 ^ (8 * 1) % 256 := G1 n 1 (by decide)
  have e2 : ib n 2 = n % 18446744073709551616 / 2 ^ (8 * 2) % 256 := G1 n 2 (by decide)
  have e3 : ib n 3 = n % 18446744073709551616 / 2 ^ (8 * 3) % 256 := G1 n 3 (by decide)
  have e4 : ib n 4 = n % 18446744073709551616 / 2 ^ (8 * 4) % 256 := G1 n 4 (by decide)
  have e5 : ib n 5 = n % 18446744073709551616 / 2 ^ (8 * 5) % 256 := G1 n 5 (by decide)
  have e6 : ib n 6 = n % 18446744073709551616 / 2 ^ (8 * 6) % 256 := G1 n 6 (by decide)
  have e7 : ib n 7 = n % 18446744073709551616 / 2 ^ (8 * 7) % 256 := G1 n 7 (by decide)
  simp only [Nat.reduceMul, Int.reducePow] at e0 e1 e2 e3 e4 e5 e6 e7
  omega
theorem JbG (n : Int) : IntKind.i64.wrap (n % 18446744073709551616) = IntKind.i64.wrap n := by
  have h : n % 18446744073709551616 % 18446744073709551616 = n % 18446744073709551616 := Int.emod_emod_of_dvd n (Int.dvd_refl _)
  show (if _ then _ else _) = (if _ then _ else _)
  have e : ∀ x : Int, x % 2 ^ IntKind.i64.bits = x % 18446744073709551616 := fun x => rfl
  simp only [e, h]
def i64B (n : Int) : Bool := decide (-9223372036854775808 ≤ n) && decide (n < 9223372036854775808)
theorem Jdq {n : Int} (h : i64B n = true) : IntKind.i64.wrap (n % 18446744073709551616) = n := by
  simp only [i64B, Bool.and_eq_true, decide_eq_true_eq] at h
  have e : IntKind.i64.wrap (n % 18446744073709551616) = IntKind.i64.wrap n := JbG n
  rw [e]; exact wrap_i64 h.1 h.2
theorem JkR (l : List Int) (r : List PV) {n : Nat} (h : l.length = n) : Qx n ⟨pu .u8 l ++ r, 0⟩ = pu .u8 l := by
  unfold Qx YC
  have : Nat.ble n (pu .u8 l ++ r).length = true := (Nat.ble_eq ▸ (by simp; omega) : Nat.ble n (pu .u8 l ++ r).length = true)
  rw [this]
  show List.take n (pu .u8 l ++ r) = _
  rw [List.take_append_of_le_length (by simp; omega), List.take_of_length_le (by simp; omega)]
theorem VL (l : List Int) (r : List PV) {n : Nat} (h : l.length = n) : Qc n ⟨pu .u8 l ++ r, 0⟩ = ⟨r, 0⟩ := by
  unfold Qc YC
  have : Nat.ble n (pu .u8 l ++ r).length = true := (Nat.ble_eq ▸ (by simp; omega) : Nat.ble n (pu .u8 l ++ r).length = true)
  rw [this]
  show RS.mk (List.drop n (pu .u8 l ++ r)) 0 = _
  rw [List.drop_append_of_le_length (by simp; omega), List.drop_of_length_le (by simp; omega), List.nil_append]
theorem Jdr (l : List Int) (r : List PV) {n : Nat} (h : l.length = n) : Wh n ⟨pu .u8 l ++ r, 0⟩ = IntKind.i64.wrap (Xd l) := by
  unfold Wh; rw [JkR l r h, Qv]
theorem XY {n : Int} (h : i64B n = true) (r : List PV) : Jz 8 ⟨pu .u8 (J4 n) ++ r, 0⟩ = n := by
  rw [WX, Jdr _ _ (W7 n), Jjj, Jdq h]
theorem QE (n : Int) (r : List PV) : Jb 8 ⟨pu .u8 (J4 n) ++ r, 0⟩ = ⟨r, 0⟩ := by
  rw [WO, VL _ _ (W7 n)]
theorem Jbd (n : Int) (r : List PV) : Jz 1 ⟨pu .u8 [IntKind.u8.wrap n] ++ r, 0⟩ = IntKind.u8.wrap n := by
  rw [WX, Jdr [IntKind.u8.wrap n] r (n := 1) rfl]
  have := Zu n
  simp only [Xd]
  rw [wrap_i64 (by omega) (by omega)]; omega
theorem Zv (n : Int) (r : List PV) : Jb 1 ⟨pu .u8 [IntKind.u8.wrap n] ++ r, 0⟩ = ⟨r, 0⟩ := by
  rw [WO, VL [IntKind.u8.wrap n] r (n := 1) rfl]
theorem Jni (l : List PV) (h : byB l = true) : Jm (⟨(Jn l).toArray⟩ : ByteArray) = l := by
  simp only [Jm]
  show (Jn l).map _ = l
  induction l with
  | nil => rfl
  | cons p ps ih =>
    have h1 : (p.isInt .u8 && (decide (0 ≤ p.int) && decide (p.int < 256))) = true ∧ byB ps = true := by
      have : byB (p :: ps) = ((p.isInt .u8 && (decide (0 ≤ p.int) && decide (p.int < 256))) && byB ps) := rfl
      rw [this, Bool.and_eq_true] at h; exact h
    simp only [Jn, List.map_cons, ih h1.2]
    congr 1
    have h2 := h1.1
    simp only [Bool.and_eq_true, decide_eq_true_eq] at h2
    obtain ⟨h2, h3, h4⟩ := h2
    match p, h2 with
    | .sc (.int .u8 x), _ =>
      simp only [PV.int] at h3 h4 ⊢
      congr 2
      simp [UInt8.toNat_ofNat]
      omega
    all_goals skip
theorem Jh5 {t : ByteArray} (h : t.size ≤ 65535) (r : List PV) : JP ⟨pu .u8 (Qf t) ++ r, 0⟩ = t ∧ J3 ⟨pu .u8 (Qf t) ++ r, 0⟩ = ⟨r, 0⟩ := by
  have hn : ∀ r, Wh 2 ⟨pu .u8 [IntKind.u8.wrap (zi t.size), IntKind.u8.wrap (Jw .i64 (zi t.size) 8)] ++ r, 0⟩ = (t.size : Int) := by
    intro r
    rw [Jdr [IntKind.u8.wrap (zi t.size), IntKind.u8.wrap (Jw .i64 (zi t.size) 8)] r (n := 2) rfl]
    simp only [Xd, Jw, WN, zi]
    have : min (8 : Int).toNat IntKind.i64.bits = 8 := by decide
    rw [this, Int.fdiv_eq_ediv_of_nonneg _ (by decide), wrap_i64 (by omega) (by omega)]
    omega
  have hs : ∀ r, Qc 2 ⟨pu .u8 [IntKind.u8.wrap (zi t.size), IntKind.u8.wrap (Jw .i64 (zi t.size) 8)] ++ r, 0⟩ = ⟨r, 0⟩ := fun r => VL _ _ rfl
  have he : pu .u8 (Qf t) ++ r = pu .u8 [IntKind.u8.wrap (zi t.size), IntKind.u8.wrap (Jw .i64 (zi t.size) 8)] ++ (pu .u8 (bsI t) ++ r) := by
    rw [QY, XW, JO, List.append_assoc]
  rw [Jal, Jak, he]
  unfold JeD JeC
  rw [hn, hs, Int.toNat_natCast, JkR _ _ (ZY t), VL _ _ (ZY t)]
  refine ⟨?_, rfl⟩
  rw [← Q6]
  apply ByteArray.ext
  apply Array.ext'
  show Jn (Jm t) = t.data.toList
  simp only [Jm]
  generalize t.data.toList = l
  induction l with
  | nil => rfl
  | cons x l ih =>
    simp only [List.map_cons, Jn, ih, PV.int]
    congr 1
    simp
theorem JkS : ∀ (l : List Int) (r : List PV), (∀ x ∈ l, 0 ≤ x ∧ x < 256) → Gq l.length ⟨pu .u8 l ++ r, 0⟩ = ⟨r, 0⟩ ∧ Gr l.length ⟨pu .u8 l ++ r, 0⟩ = l
  | [], r, _ => ⟨rfl, rfl⟩
  | x :: l, r, h => by
      have h2 := JkS l r fun y hy => h y (List.mem_cons_of_mem _ hy)
      have hx := h x List.mem_cons_self
      have e1 : Qc 1 ⟨pu .u8 (x :: l) ++ r, 0⟩ = ⟨pu .u8 l ++ r, 0⟩ := by
        rw [show pu .u8 (x :: l) ++ r = pu .u8 [x] ++ (pu .u8 l ++ r) from rfl, VL [x] _ (n := 1) rfl]
      have e2 : Wh 1 ⟨pu .u8 (x :: l) ++ r, 0⟩ = x := by
        rw [show pu .u8 (x :: l) ++ r = pu .u8 [x] ++ (pu .u8 l ++ r) from rfl, Jdr [x] _ (n := 1) rfl]
        simp only [Xd]
        rw [wrap_i64 (by omega) (by omega)]; omega
      simp only [List.length_cons, Gq, Gr, e1, e2, h2.1, h2.2, true_and]
      rw [WN]; congr 1; omega
structure MsgOk (ns : List Int) (ts : List ByteArray) (h : List Int) : Prop where
  len : ns.length = 12
  num : ∀ n, n < 12 → i64B (ns.getD n 0) = true
  cnt : ts.length ≤ 4
  txt : ∀ t ∈ ts, t.size ≤ 65535
  sum : h.length = 32
  sumB : ∀ x ∈ h, 0 ≤ x ∧ x < 256
theorem JvX {τ : Tab} {m : Nat} {a b : TypeId} {pvs : List PV} (h : TyL τ m [a, b] pvs) : ∃ p q, pvs = [p, q] ∧ Ty τ m a p ∧ Ty τ m b q := by
  match pvs, h with
  | [p, q], h => exact ⟨p, q, rfl, h.1, h.2.1⟩
theorem JvY {τ : Tab} {m : Nat} {a b c : TypeId} {pvs : List PV} (h : TyL τ m [a, b, c] pvs) : ∃ p q r, pvs = [p, q, r] ∧ Ty τ m a p ∧ Ty τ m b q ∧ Ty τ m c r := by
  match pvs, h with
  | [p, q, r], h => exact ⟨p, q, r, rfl, h.1, h.2.1, h.2.2.1⟩
-- FN law9.Keys | law16.Good | law16.Few
noncomputable def kb : Nat → List PV → List PV := hid fun i b => pu .u8 [107, 48 + i] ++ b.take 60
theorem JkT (i : Nat) (b : List PV) : kb i b = pu .u8 [107, 48 + i] ++ b.take 60 := by rw [kb, hid_eq]
theorem Jh6 (i : Nat) {b : List PV} (h : Je .u8 b = true) : kOk (kb i b) = true := by
  rw [JkT]; unfold kOk
  have h2 : Je .u8 (b.take 60) = true := by
    rw [Qb h, WW]; simp
  rw [QC, h2, JV]
  simp; omega
noncomputable def Jgz : List PV → List Ent → (Res → Option Res) → Option Res
  | [.ro 5 z f b], [], k => k ⟨.st 31 [.ro 5 false false (kb 0 b), .ro 5 false false (kb 1 b), .ro 5 false false (kb 2 b)], [], []⟩
  | _, _, _ => none
noncomputable def Jr3 : Sig := { own := [], run := Jgz }
theorem JvZ (n m : Nat) : (J0 (zi n) m).toNat = min n m := by unfold J0; simp only [zi]; split <;> omega
theorem JpE : Jh tau Try.prog 21 Jr3 := JyB.of fun xs es k res hr => by
  change Jgz xs es k = some res at hr
  unfold Jgz at hr
  split at hr
  · rename_i z f b
    show g21 0 z f b k = some res
    have hm : (J0 (zi b.length) 60).toNat = min b.length 60 := JvZ b.length 60
    have ht : List.take (min b.length 60) b = b.take 60 := by rw [Nat.min_comm, List.take_eq_take_iff]; omega
    have hl : (b.take 60).length ≤ 60 := by simp; omega
    have e : ∀ x y : Int, List.take (2 + (b.take 60).length) (.sc (.int .u8 x) :: .sc (.int .u8 y) :: id (b.take 60)) = .sc (.int .u8 x) :: .sc (.int .u8 y) :: b.take 60 := fun x y => List.take_of_length_le (by simp; omega)
    have hk : ∀ i, kb i b = .sc (.int .u8 107) :: .sc (.int .u8 (48 + i)) :: b.take 60 := fun i => by rw [JkT]; simp
    unfold g21
    simp only [hm, ht, e]
    have hr4 : Jj (2 + (b.take 60).length) 1 = true := by simp only [Jj, Nat.mul_one, decide_eq_true_eq]; omega
    rw [Ja (by simp; unfold J0; simp only [zi]; split <;> omega), hr4]
    simp only [hk] at hr
    exact hr
  · cases hr
def Jr4 : Nat → C13 → Int
  | 0, c => 1 + c.kd % 5
  | 1, c => c.fr % 3
  | 2, c => (c.fr % 3 + 1 + c.to % 2) % 3
  | 3, c => c.wh % 3
  | 4, c => c.wn % 100
  | 5, c => c.cd % 3
  | 6, c => c.cu % 8
  | 7, c => c.ve % 1073741824
  | 8, c => c.co % 1073741824
  | 9, c => c.ad % 3
  | 10, c => c.au % 8
  | 11, c => c.su % 1073741824
  | _, c => c.er % 256
noncomputable def Xu : Nat → C13 → Int := hid Jr4
noncomputable abbrev JAP (c : C13) : C13 := ⟨Xu 0 c, Xu 1 c, Xu 2 c, Xu 3 c, Xu 4 c, Xu 5 c, Xu 6 c, Xu 7 c, Xu 8 c, Xu 9 c, Xu 10 c, Xu 11 c, Xu 12 c⟩
noncomputable def F72 : Fns := F0
theorem Jr5 : Jx tau Try.prog F72 := JE
def Jnj : An := (.seq .leaf (.seq .leaf .leaf))
noncomputable def g72 (f : Nat) (k : Res → Option Res) : Option Res := k (Res.mk (.ar 118 [.sc (.int .u32 1116352408), .sc (.int .u32 1899447441), .sc (.int .u32 3049323471), .sc (.int .u32 3921009573), .sc (.int .u32 961987163), .sc (.int .u32 1508970993), .sc (.int .u32 2453635748), .sc (.int .u32 2870763221), .sc (.int .u32 3624381080), .sc (.int .u32 310598401), .sc (.int .u32 607225278), .sc (.int .u32 1426881987), .sc (.int .u32 1925078388), .sc (.int .u32 2162078206), .sc (.int .u32 2614888103), .sc (.int .u32 3248222580), .sc (.int .u32 3835390401), .sc (.int .u32 4022224774), .sc (.int .u32 264347078), .sc (.int .u32 604807628), .sc (.int .u32 770255983), .sc (.int .u32 1249150122), .sc (.int .u32 1555081692), .sc (.int .u32 1996064986), .sc (.int .u32 2554220882), .sc (.int .u32 2821834349), .sc (.int .u32 2952996808), .sc (.int .u32 3210313671), .sc (.int .u32 3336571891), .sc (.int .u32 3584528711), .sc (.int .u32 113926993), .sc (.int .u32 338241895), .sc (.int .u32 666307205), .sc (.int .u32 773529912), .sc (.int .u32 1294757372), .sc (.int .u32 1396182291), .sc (.int .u32 1695183700), .sc (.int .u32 1986661051), .sc (.int .u32 2177026350), .sc (.int .u32 2456956037), .sc (.int .u32 2730485921), .sc (.int .u32 2820302411), .sc (.int .u32 3259730800), .sc (.int .u32 3345764771), .sc (.int .u32 3516065817), .sc (.int .u32 3600352804), .sc (.int .u32 4094571909), .sc (.int .u32 275423344), .sc (.int .u32 430227734), .sc (.int .u32 506948616), .sc (.int .u32 659060556), .sc (.int .u32 883997877), .sc (.int .u32 958139571), .sc (.int .u32 1322822218), .sc (.int .u32 1537002063), .sc (.int .u32 1747873779), .sc (.int .u32 1955562222), .sc (.int .u32 2024104815), .sc (.int .u32 2227730452), .sc (.int .u32 2361852424), .sc (.int .u32 2428436474), .sc (.int .u32 2756734187), .sc (.int .u32 3204031479), .sc (.int .u32 3329325298)]) [] [])
theorem e72 (f : Nat) (k : Res → Option Res) : JM tau F72 Try.f72 (Try.f72.body.get!) Jnj [.ro] 0 [] [] k = g72 f k := by kernel_rfl
theorem Jzy (f : Nat) : Jg (Try.f72.body.get!) Jnj = [] := by kernel_rfl
theorem Jzz (f : Nat) : ∀ q ∈ Jg (Try.f72.body.get!) Jnj, q.Ok tau Try.prog 0 := by
  rw [Jzy f]; intro q hq; cases hq
theorem Jv0 : Try.prog.funcs[72]? = some Try.f72 := by kernel_rfl
theorem Jv1 : Try.f72.body = some (Try.f72.body.get!) := by kernel_rfl
theorem JzA : Enters Try.prog 72 := enters_of Jv0 (by kernel_rfl) Jv1
noncomputable def JkU : List PV → List Ent → (Res → Option Res) → Option Res
  | [], [], k => g72 0  k
  | _, _, _ => none
noncomputable def s72 : Sig := { own := [], run := JkU }
theorem JzB : Jh tau Try.prog 72 s72 := JY Jq Jr5 Jr Jv0 Jv1 Jnj [.ro] 0 [] JkU (Jzz 0) fun xs es k res hr => by
  unfold JkU at hr
  split at hr
  · exact ⟨rfl, 0, (e72 0  _).trans hr⟩
  · cases hr
def N28 : Nat := 278
noncomputable def F28 : Fns := JG 72 s72 (JG 73 Juk F0)
theorem XZ : Jx tau Try.prog F28 := (JE.add Jul JyT).add JzB JzA
noncomputable def Jco : Code := Qs (Try.f28.body.get!) [1, 1, 1, 1, 1, 0, 0, 0]
def X0 : Nm := [(0, .any), (2, .any), (3, .any), (4, .any), (5, .any)]
def YY : Nm := [(0, .any), (2, .any), (3, .any), (4, .any), (5, .any)]
def Je1 : An := (.seq (.seq .leaf (.cond .leaf .leaf)) (.block none .leaf))
noncomputable def Jcp : Code := Qs (Try.f28.body.get!) [1, 1, 1, 1, 1, 1, 1, 0, 1, 0, 0]
def X1 : Nm := [(2, .any), (3, .any), (4, .any), (5, .any), (6, .any), (7, .any)]
def YZ : Nm := [(2, .any), (3, .any), (4, .any), (5, .any)]
def Je2 : An := (.seq (.seq .leaf (.cond .leaf .leaf)) (.seq (.block none .leaf) .leaf))
noncomputable def Jcq : Code := Qs (Try.f28.body.get!) [1, 1, 1, 1, 1, 1, 1, 1, 1, 0, 1, 0, 0, 1, 0, 0, 0, 1, 0, 0]
def X2 : Nm := [(2, .any), (3, .any), (4, .any), (5, .any), (8, .any), (9, .any), (10, .any)]
def Y0 : Nm := [(2, .any), (3, .any), (4, .any), (5, .any), (8, .any), (9, .any)]
def Je3 : An := (.seq (.seq .leaf (.cond .leaf .leaf)) (.seq (.block none (.seq .leaf .leaf)) .leaf))
noncomputable def Jcr : Code := Qs (Try.f28.body.get!) [1, 1, 1, 1, 1, 1, 1, 1, 1, 0, 1, 0, 0, 1, 0, 0, 1, 0, 1, 0, 0]
def X3 : Nm := [(2, .any), (3, .any), (4, .any), (5, .any), (8, .any), (9, .any), (12, .any)]
def Y1 : Nm := [(2, .any), (3, .any), (4, .any), (5, .any), (8, .any), (9, .any)]
def Je4 : An := (.seq (.seq .leaf (.cond .leaf .leaf)) (.seq (.block none (.seq .leaf .leaf)) .leaf))
noncomputable def Jcs : Code := Qs (Try.f28.body.get!) [1, 1, 1, 1, 1, 1, 1, 1, 1, 0, 1, 0, 0, 1, 0, 0, 1, 1, 1, 0, 1, 0, 0]
def X4 : Nm := [(2, .any), (3, .any), (4, .any), (5, .any), (8, .any), (9, .any), (15, .any), (16, .any)]
def Y2 : Nm := [(2, .any), (3, .any), (4, .any), (5, .any), (8, .any), (9, .any), (15, .any)]
def Je5 : An := (.seq (.seq .leaf (.cond .leaf .leaf)) (.seq (.block none (.seq .leaf (.seq .leaf (.seq .leaf .leaf)))) .leaf))
noncomputable def Jct : Code := Qs (Try.f28.body.get!) [1, 1, 1, 1, 1, 1, 1, 1, 1, 0, 1, 0, 0, 1, 0, 0, 1, 1, 1, 1, 1, 0, 0]
def X5 : Nm := [(2, .any), (3, .any), (4, .any), (5, .any), (8, .any), (9, .any), (15, .any), (20, .any)]
def Y3 : Nm := [(2, .any), (3, .any), (4, .any), (5, .any), (8, .any), (9, .any)]
def Je6 : An := (.seq (.seq .leaf (.cond .leaf .leaf)) (.seq (.block none .leaf) .leaf))
noncomputable def Jcu : Code := Qs (Try.f28.body.get!) [1, 1, 1, 1, 1, 1, 1, 1, 1, 0, 1, 0, 0]
def X6 : Nm := [(2, .any), (3, .any), (4, .any), (5, .any), (8, .any), (9, .any)]
def Y4 : Nm := [(2, .any), (4, .any)]
def Je7 (r3 : QZ) (r4 : QZ) (r5 : QZ) (r6 : QZ) : An := (.seq (.seq .leaf (.cond .leaf .leaf)) (.seq (.block none (.seq (.seq .leaf (.block none (.sum X2 N28 r3))) (.seq (.seq .leaf (.block none (.sum X3 N28 r4))) (.seq .leaf (.seq (.seq .leaf (.block none (.sum X4 N28 r5))) (.seq .leaf (.block none (.sum X5 N28 r6)))))))) .leaf))
noncomputable def Jcv : Code := Qs (Try.f28.body.get!) [1, 1, 1, 1, 1, 1, 1, 1, 1, 1, 1, 0, 1, 0, 0]
def X7 : Nm := [(2, .any), (4, .any), (21, .any), (22, .any)]
def Y5 : Nm := [(2, .any), (21, .any)]
def Je8 : An := (.seq (.seq .leaf (.cond .leaf .leaf)) (.seq (.block none .leaf) .leaf))
def Jnk (r0 : QZ) (r1 : QZ) (r2 : QZ) (r7 : QZ) : An := (.seq .leaf (.seq .leaf (.seq .leaf (.seq .leaf (.seq .leaf (.seq (.block none (.sum X0 N28 r0)) (.seq .leaf (.seq (.seq .leaf (.block none (.sum X1 N28 r1))) (.seq .leaf (.seq (.seq .leaf (.block none (.sum X6 N28 r2))) (.seq .leaf (.seq (.seq .leaf (.block none (.sum X7 N28 r7))) (.seq .leaf .leaf)))))))))))))
def VM (f : Nat) (rc : Bool → Bool → List PV → Nat → List PV → List PV → List PV → List PV → Option Res) (k0 : Bool → Bool → List PV → Nat → List PV → List PV → List PV → List PV → Option Res) (v0 : Bool) (v1 : Bool) (v2 : List PV) (v3 : Nat) (v4 : List PV) (v5 : List PV) (v6 : List PV) (v7 : List PV) : Option Res := bif (zi v3).tmod 64 != 56 then bif Jj (v3 + 1) 1 && true then rc v0 v1 v2 (v3 + 1) v4 v5 v6 (List.take v3 v7 ++ [.sc (.int .u8 0)]) else none else k0 v0 v1 v2 v3 v4 v5 v6 v7
def ZZ (f : Nat) (k0 : Bool → Bool → List PV → Nat → List PV → List PV → List PV → List PV → Option Res) : Nat → Bool → Bool → List PV → Nat → List PV → List PV → List PV → List PV → Option Res
  | 0, _, _, _, _, _, _, _, _ => none
  | n + 1, v0, v1, v2, v3, v4, v5, v6, v7 => VM f (ZZ f k0 n) k0 v0 v1 v2 v3 v4 v5 v6 v7
theorem Jnl (f : Nat) (k : Kont) (n : Nat) (v0 : Bool) (v1 : Bool) (v2 : List PV) (v3 : Nat) (v4 : List PV) (v5 : List PV) (v6 : List PV) (v7 : List PV) : Jo tau 0 X0 (fun s k => ev tau F28 0 0 Jco (Je1 ) s k) (n + 1) (Jc X0 N28 [.ro 5 v0 v1 v2, .ptr 4464 [], .ptr 4465 [], .ptr 4466 [], .ow 5 4467 [] 0 v3 none] [(4464, .box false 37 (PV.ar 37 v4)), (4465, .box false 118 (PV.ar 118 v5)), (4466, .box false 112 (PV.ar 112 v6)), (4467, .vec false 5 false v7)]) (Jv tau 0 YY k) = VM f (fun v0 v1 v2 v3 v4 v5 v6 v7 => Jo tau 0 X0 (fun s k => ev tau F28 0 0 Jco (Je1 ) s k) n (Jc X0 N28 [.ro 5 v0 v1 v2, .ptr 4464 [], .ptr 4465 [], .ptr 4466 [], .ow 5 4467 [] 0 v3 none] [(4464, .box false 37 (PV.ar 37 v4)), (4465, .box false 118 (PV.ar 118 v5)), (4466, .box false 112 (PV.ar 112 v6)), (4467, .vec false 5 false v7)]) (Jv tau 0 YY k)) (fun x0 x1 x2 x3 x4 x5 x6 x7 => k (Ex.exit 0) (Jc YY N28 [.ro 5 x0 x1 x2, .ptr 4464 [], .ptr 4465 [], .ptr 4466 [], .ow 5 4467 [] 0 x3 none] [(4464, .box false 37 (PV.ar 37 x4)), (4465, .box false 118 (PV.ar 118 x5)), (4466, .box false 112 (PV.ar 112 x6)), (4467, .vec false 5 false x7)])) v0 v1 v2 v3 v4 v5 v6 v7 := by kernel_rfl
theorem Jh7 (f : Nat) (k : Kont) : ∀ (n : Nat) (v0 : Bool) (v1 : Bool) (v2 : List PV) (v3 : Nat) (v4 : List PV) (v5 : List PV) (v6 : List PV) (v7 : List PV), Jo tau 0 X0 (fun s k => ev tau F28 0 0 Jco (Je1 ) s k) n (Jc X0 N28 [.ro 5 v0 v1 v2, .ptr 4464 [], .ptr 4465 [], .ptr 4466 [], .ow 5 4467 [] 0 v3 none] [(4464, .box false 37 (PV.ar 37 v4)), (4465, .box false 118 (PV.ar 118 v5)), (4466, .box false 112 (PV.ar 112 v6)), (4467, .vec false 5 false v7)]) (Jv tau 0 YY k) = ZZ f (fun x0 x1 x2 x3 x4 x5 x6 x7 => k (Ex.exit 0) (Jc YY N28 [.ro 5 x0 x1 x2, .ptr 4464 [], .ptr 4465 [], .ptr 4466 [], .ow 5 4467 [] 0 x3 none] [(4464, .box false 37 (PV.ar 37 x4)), (4465, .box false 118 (PV.ar 118 x5)), (4466, .box false 112 (PV.ar 112 x6)), (4467, .vec false 5 false x7)])) n v0 v1 v2 v3 v4 v5 v6 v7 | 0, _, _, _, _, _, _, _, _ => rfl | n + 1, v0, v1, v2, v3, v4, v5, v6, v7 => (Jnl f k n v0 v1 v2 v3 v4 v5 v6 v7).trans (congrArg (fun r => VM f r (fun x0 x1 x2 x3 x4 x5 x6 x7 => k (Ex.exit 0) (Jc YY N28 [.ro 5 x0 x1 x2, .ptr 4464 [], .ptr 4465 [], .ptr 4466 [], .ow 5 4467 [] 0 x3 none] [(4464, .box false 37 (PV.ar 37 x4)), (4465, .box false 118 (PV.ar 118 x5)), (4466, .box false 112 (PV.ar 112 x6)), (4467, .vec false 5 false x7)])) v0 v1 v2 v3 v4 v5 v6 v7) (by funext v0 v1 v2 v3 v4 v5 v6 v7; exact Jh7 f k n v0 v1 v2 v3 v4 v5 v6 v7))
def Jbe (f : Nat) : List PV → List (Nat × Ent) → Kont → Option Res
  | [.ro 5 v0 v1 v2, .ptr 4464 [], .ptr 4465 [], .ptr 4466 [],
  PV.ow 5 4467 [] 0 v3
    none], [(4464, .box false 37 (PV.ar 37 v4)), (4465, .box false 118 (PV.ar 118 v5)), (4466, .box false 112 (PV.ar 112 v6)),
  (4467,
    Ent.vec false 5 false
      v7)], k => ZZ f (fun x0 x1 x2 x3 x4 x5 x6 x7 => k (Ex.exit
  0) (Jc YY N28 [.ro 5 x0 x1 x2, .ptr 4464 [], .ptr 4465 [], .ptr 4466 [],
  PV.ow 5 4467 [] 0 x3
    none] [(4464, .box false 37 (PV.ar 37 x4)), (4465, .box false 118 (PV.ar 118 x5)), (4466, .box false 112 (PV.ar 112 x6)), (4467, .vec false 5 false x7)])) f v0 v1 v2 v3 v4 v5 v6 v7
  | _, _, _ => none
theorem Jr6 (f : Nat) : Jg Jco Je1 = [] := by kernel_rfl
theorem Jv2 (f : Nat) : (Item.l Jco X0 N28 (Jbe f)).Ok tau Try.prog 0 := JJ Jq XZ Jr (x := Je1) (nm2 := YY) (Jp _ _ (by rw [Jr6 f]; intro q hq; cases hq)) fun vs hp k res hr => by
  unfold Jbe at hr
  split at hr
  · exact ⟨f, 0, (Jh7 f _ f _ _ _ _ _ _ _ _ ).trans hr⟩
  · cases hr
def VN (f : Nat) (rc : Nat → Int → Int → List PV → List PV → List PV → List PV → Option Res) (k0 : Nat → List PV → List PV → List PV → List PV → Option Res) (v0 : Nat) (v1 : Int) (v2 : Int) (v3 : List PV) (v4 : List PV) (v5 : List PV) (v6 : List PV) : Option Res := bif decide (v2 ≥ 0) then bif decide (0 ≤ IntKind.u64.wrap (8 * IntKind.u64.wrap v2)) && true then bif Jj (v0 + 1) 1 && true then rc (v0 + 1) v1 (IntKind.i64.wrap (v2 - 1)) v3 v4 v5 (List.take v0 v6 ++ [.sc (.int .u8 (IntKind.u8.wrap (Jw IntKind.u64 v1 (IntKind.u64.wrap (8 * IntKind.u64.wrap v2)))))]) else none else none else k0 v0 v3 v4 v5 v6
def Z0 (f : Nat) (k0 : Nat → List PV → List PV → List PV → List PV → Option Res) : Nat → Nat → Int → Int → List PV → List PV → List PV → List PV → Option Res
  | 0, _, _, _, _, _, _, _ => none
  | n + 1, v0, v1, v2, v3, v4, v5, v6 => VN f (Z0 f k0 n) k0 v0 v1 v2 v3 v4 v5 v6
theorem Jnm (f : Nat) (k : Kont) (n : Nat) (v0 : Nat) (v1 : Int) (v2 : Int) (v3 : List PV) (v4 : List PV) (v5 : List PV) (v6 : List PV) : Jo tau 0 X1 (fun s k => ev tau F28 0 0 Jcp (Je2 ) s k) (n + 1) (Jc X1 N28 [.ptr 4464 [], .ptr 4465 [], .ptr 4466 [], .ow 5 4467 [] 0 v0 none, .sc (.int .u64 v1), .sc (.int .i64 v2)] [(4464, .box false 37 (PV.ar 37 v3)), (4465, .box false 118 (PV.ar 118 v4)), (4466, .box false 112 (PV.ar 112 v5)), (4467, .vec false 5 false v6)]) (Jv tau 0 YZ k) = VN f (fun v0 v1 v2 v3 v4 v5 v6 => Jo tau 0 X1 (fun s k => ev tau F28 0 0 Jcp (Je2 ) s k) n (Jc X1 N28 [.ptr 4464 [], .ptr 4465 [], .ptr 4466 [], .ow 5 4467 [] 0 v0 none, .sc (.int .u64 v1), .sc (.int .i64 v2)] [(4464, .box false 37 (PV.ar 37 v3)), (4465, .box false 118 (PV.ar 118 v4)), (4466, .box false 112 (PV.ar 112 v5)), (4467, .vec false 5 false v6)]) (Jv tau 0 YZ k)) (fun x0 x1 x2 x3 x4 => k (Ex.exit 2) (Jc YZ N28 [.ptr 4464 [], .ptr 4465 [], .ptr 4466 [], .ow 5 4467 [] 0 x0 none] [(4464, .box false 37 (PV.ar 37 x1)), (4465, .box false 118 (PV.ar 118 x2)), (4466, .box false 112 (PV.ar 112 x3)), (4467, .vec false 5 false x4)])) v0 v1 v2 v3 v4 v5 v6 := by kernel_rfl
theorem Jh8 (f : Nat) (k : Kont) : ∀ (n : Nat) (v0 : Nat) (v1 : Int) (v2 : Int) (v3 : List PV) (v4 : List PV) (v5 : List PV) (v6 : List PV), Jo tau 0 X1 (fun s k => ev tau F28 0 0 Jcp (Je2 ) s k) n (Jc X1 N28 [.ptr 4464 [], .ptr 4465 [], .ptr 4466 [], .ow 5 4467 [] 0 v0 none, .sc (.int .u64 v1), .sc (.int .i64 v2)] [(4464, .box false 37 (PV.ar 37 v3)), (4465, .box false 118 (PV.ar 118 v4)), (4466, .box false 112 (PV.ar 112 v5)), (4467, .vec false 5 false v6)]) (Jv tau 0 YZ k) = Z0 f (fun x0 x1 x2 x3 x4 => k (Ex.exit 2) (Jc YZ N28 [.ptr 4464 [], .ptr 4465 [], .ptr 4466 [], .ow 5 4467 [] 0 x0 none] [(4464, .box false 37 (PV.ar 37 x1)), (4465, .box false 118 (PV.ar 118 x2)), (4466, .box false 112 (PV.ar 112 x3)), (4467, .vec false 5 false x4)])) n v0 v1 v2 v3 v4 v5 v6 | 0, _, _, _, _, _, _, _ => rfl | n + 1, v0, v1, v2, v3, v4, v5, v6 => (Jnm f k n v0 v1 v2 v3 v4 v5 v6).trans (congrArg (fun r => VN f r (fun x0 x1 x2 x3 x4 => k (Ex.exit 2) (Jc YZ N28 [.ptr 4464 [], .ptr 4465 [], .ptr 4466 [], .ow 5 4467 [] 0 x0 none] [(4464, .box false 37 (PV.ar 37 x1)), (4465, .box false 118 (PV.ar 118 x2)), (4466, .box false 112 (PV.ar 112 x3)), (4467, .vec false 5 false x4)])) v0 v1 v2 v3 v4 v5 v6) (by funext v0 v1 v2 v3 v4 v5 v6; exact Jh8 f k n v0 v1 v2 v3 v4 v5 v6))
def Jbf (f : Nat) : List PV → List (Nat × Ent) → Kont → Option Res
  | [.ptr 4464 [], .ptr 4465 [], .ptr 4466 [], .ow 5 4467 [] 0 v0 none, .sc (.int .u64 v1),
  PV.sc
    (Value.int IntKind.i64
      v2)], [(4464, .box false 37 (PV.ar 37 v3)), (4465, .box false 118 (PV.ar 118 v4)), (4466, .box false 112 (PV.ar 112 v5)),
  (4467,
    Ent.vec false 5 false
      v6)], k => Z0 f (fun x0 x1 x2 x3 x4 => k (Ex.exit
  2) (Jc YZ N28 [.ptr 4464 [], .ptr 4465 [], .ptr 4466 [],
  PV.ow 5 4467 [] 0 x0
    none] [(4464, .box false 37 (PV.ar 37 x1)), (4465, .box false 118 (PV.ar 118 x2)), (4466, .box false 112 (PV.ar 112 x3)), (4467, .vec false 5 false x4)])) f v0 v1 v2 v3 v4 v5 v6
  | _, _, _ => none
theorem Jr7 (f : Nat) : Jg Jcp Je2 = [] := by kernel_rfl
theorem Jv3 (f : Nat) : (Item.l Jcp X1 N28 (Jbf f)).Ok tau Try.prog 0 := JJ Jq XZ Jr (x := Je2) (nm2 := YZ) (Jp _ _ (by rw [Jr7 f]; intro q hq; cases hq)) fun vs hp k res hr => by
  unfold Jbf at hr
  split at hr
  · exact ⟨f, 0, (Jh8 f _ f _ _ _ _ _ _ _ ).trans hr⟩
  · cases hr
def VO (f : Nat) (rc : Nat → Int → Int → List PV → List PV → List PV → List PV → List PV → Option Res) (k0 : Nat → Int → List PV → List PV → List PV → List PV → List PV → Option Res) (v0 : Nat) (v1 : Int) (v2 : Int) (v3 : List PV) (v4 : List PV) (v5 : List PV) (v6 : List PV) (v7 : List PV) : Option Res := bif decide (v2 < 16) then bif decide (0 ≤ IntKind.i64.wrap (v1 + IntKind.i64.wrap (4 * v2))) && decide (IntKind.i64.wrap (v1 + IntKind.i64.wrap (4 * v2)) < zi v0) && true then bif PV.isInt IntKind.u8 (Jk (v6.getD (0 + (IntKind.i64.wrap (v1 + IntKind.i64.wrap (4 * v2))).toNat) PV.top) []) && true then bif decide (0 ≤ IntKind.i64.wrap (IntKind.i64.wrap (v1 + IntKind.i64.wrap (4 * v2)) + 1)) && decide (IntKind.i64.wrap (IntKind.i64.wrap (v1 + IntKind.i64.wrap (4 * v2)) + 1) < zi v0) && true then bif PV.isInt IntKind.u8 (Jk (v6.getD (0 + (IntKind.i64.wrap (IntKind.i64.wrap (v1 + IntKind.i64.wrap (4 * v2)) + 1)).toNat) PV.top) []) && true then bif decide (0 ≤ IntKind.i64.wrap (IntKind.i64.wrap (v1 + IntKind.i64.wrap (4 * v2)) + 2)) && decide (IntKind.i64.wrap (IntKind.i64.wrap (v1 + IntKind.i64.wrap (4 * v2)) + 2) < zi v0) && true then bif PV.isInt IntKind.u8 (Jk (v6.getD (0 + (IntKind.i64.wrap (IntKind.i64.wrap (v1 + IntKind.i64.wrap (4 * v2)) + 2)).toNat) PV.top) []) && true then bif decide (0 ≤ IntKind.i64.wrap (IntKind.i64.wrap (v1 + IntKind.i64.wrap (4 * v2)) + 3)) && decide (IntKind.i64.wrap (IntKind.i64.wrap (v1 + IntKind.i64.wrap (4 * v2)) + 3) < zi v0) && true then bif PV.isInt IntKind.u8 (Jk (v6.getD (0 + (IntKind.i64.wrap (IntKind.i64.wrap (v1 + IntKind.i64.wrap (4 * v2)) + 3)).toNat) PV.top) []) && true then bif decide (0 ≤ v2) && decide (v2 < zi 64) && true then rc v0 v1 (IntKind.i64.wrap (v2 + 1)) v3 v4 v5 v6 (v7.set v2.toNat (.sc (.int .u32 (JC BinOp.or IntKind.u32 (JC BinOp.or IntKind.u32 (JC BinOp.or IntKind.u32 (Xc IntKind.u32 (IntKind.u32.wrap (Jk (v6.getD (0 + (IntKind.i64.wrap (v1 + IntKind.i64.wrap (4 * v2))).toNat) PV.top) []).int) 24) (Xc IntKind.u32 (IntKind.u32.wrap (Jk (v6.getD (0 + (IntKind.i64.wrap (IntKind.i64.wrap (v1 + IntKind.i64.wrap (4 * v2)) + 1)).toNat) PV.top) []).int) 16)) (Xc IntKind.u32 (IntKind.u32.wrap (Jk (v6.getD (0 + (IntKind.i64.wrap (IntKind.i64.wrap (v1 + IntKind.i64.wrap (4 * v2)) + 2)).toNat) PV.top) []).int) 8)) (IntKind.u32.wrap (Jk (v6.getD (0 + (IntKind.i64.wrap (IntKind.i64.wrap (v1 + IntKind.i64.wrap (4 * v2)) + 3)).toNat) PV.top) []).int))))) else none else none else none else none else none else none else none else none else none else k0 v0 v1 v3 v4 v5 v6 v7
def Z1 (f : Nat) (k0 : Nat → Int → List PV → List PV → List PV → List PV → List PV → Option Res) : Nat → Nat → Int → Int → List PV → List PV → List PV → List PV → List PV → Option Res
  | 0, _, _, _, _, _, _, _, _ => none
  | n + 1, v0, v1, v2, v3, v4, v5, v6, v7 => VO f (Z1 f k0 n) k0 v0 v1 v2 v3 v4 v5 v6 v7
theorem Jnn (f : Nat) (k : Kont) (n : Nat) (v0 : Nat) (v1 : Int) (v2 : Int) (v3 : List PV) (v4 : List PV) (v5 : List PV) (v6 : List PV) (v7 : List PV) : Jo tau 0 X2 (fun s k => ev tau F28 0 0 Jcq (Je3 ) s k) (n + 1) (Jc X2 N28 [.ptr 4464 [], .ptr 4465 [], .ptr 4466 [], .ow 5 4467 [] 0 v0 none, .ptr 4468 [], .sc (.int .i64 v1), .sc (.int .i64 v2)] [(4464, .box false 37 (PV.ar 37 v3)), (4465, .box false 118 (PV.ar 118 v4)), (4466, .box false 112 (PV.ar 112 v5)), (4467, .vec false 5 false v6), (4468, .box false 118 (PV.ar 118 v7))]) (Jv tau 0 Y0 k) = VO f (fun v0 v1 v2 v3 v4 v5 v6 v7 => Jo tau 0 X2 (fun s k => ev tau F28 0 0 Jcq (Je3 ) s k) n (Jc X2 N28 [.ptr 4464 [], .ptr 4465 [], .ptr 4466 [], .ow 5 4467 [] 0 v0 none, .ptr 4468 [], .sc (.int .i64 v1), .sc (.int .i64 v2)] [(4464, .box false 37 (PV.ar 37 v3)), (4465, .box false 118 (PV.ar 118 v4)), (4466, .box false 112 (PV.ar 112 v5)), (4467, .vec false 5 false v6), (4468, .box false 118 (PV.ar 118 v7))]) (Jv tau 0 Y0 k)) (fun x0 x1 x2 x3 x4 x5 x6 => k (Ex.exit 6) (Jc Y0 N28 [.ptr 4464 [], .ptr 4465 [], .ptr 4466 [], .ow 5 4467 [] 0 x0 none, .ptr 4468 [], .sc (.int .i64 x1)] [(4464, .box false 37 (PV.ar 37 x2)), (4465, .box false 118 (PV.ar 118 x3)), (4466, .box false 112 (PV.ar 112 x4)), (4467, .vec false 5 false x5), (4468, .box false 118 (PV.ar 118 x6))])) v0 v1 v2 v3 v4 v5 v6 v7 := by kernel_rfl
theorem Jh9 (f : Nat) (k : Kont) : ∀ (n : Nat) (v0 : Nat) (v1 : Int) (v2 : Int) (v3 : List PV) (v4 : List PV) (v5 : List PV) (v6 : List PV) (v7 : List PV), Jo tau 0 X2 (fun s k => ev tau F28 0 0 Jcq (Je3 ) s k) n (Jc X2 N28 [.ptr 4464 [], .ptr 4465 [], .ptr 4466 [], .ow 5 4467 [] 0 v0 none, .ptr 4468 [], .sc (.int .i64 v1), .sc (.int .i64 v2)] [(4464, .box false 37 (PV.ar 37 v3)), (4465, .box false 118 (PV.ar 118 v4)), (4466, .box false 112 (PV.ar 112 v5)), (4467, .vec false 5 false v6), (4468, .box false 118 (PV.ar 118 v7))]) (Jv tau 0 Y0 k) = Z1 f (fun x0 x1 x2 x3 x4 x5 x6 => k (Ex.exit 6) (Jc Y0 N28 [.ptr 4464 [], .ptr 4465 [], .ptr 4466 [], .ow 5 4467 [] 0 x0 none, .ptr 4468 [], .sc (.int .i64 x1)] [(4464, .box false 37 (PV.ar 37 x2)), (4465, .box false 118 (PV.ar 118 x3)), (4466, .box false 112 (PV.ar 112 x4)), (4467, .vec false 5 false x5), (4468, .box false 118 (PV.ar 118 x6))])) n v0 v1 v2 v3 v4 v5 v6 v7 | 0, _, _, _, _, _, _, _, _ => rfl | n + 1, v0, v1, v2, v3, v4, v5, v6, v7 => (Jnn f k n v0 v1 v2 v3 v4 v5 v6 v7).trans (congrArg (fun r => VO f r (fun x0 x1 x2 x3 x4 x5 x6 => k (Ex.exit 6) (Jc Y0 N28 [.ptr 4464 [], .ptr 4465 [], .ptr 4466 [], .ow 5 4467 [] 0 x0 none, .ptr 4468 [], .sc (.int .i64 x1)] [(4464, .box false 37 (PV.ar 37 x2)), (4465, .box false 118 (PV.ar 118 x3)), (4466, .box false 112 (PV.ar 112 x4)), (4467, .vec false 5 false x5), (4468, .box false 118 (PV.ar 118 x6))])) v0 v1 v2 v3 v4 v5 v6 v7) (by funext v0 v1 v2 v3 v4 v5 v6 v7; exact Jh9 f k n v0 v1 v2 v3 v4 v5 v6 v7))
def G2 (f : Nat) : List PV → List (Nat × Ent) → Kont → Option Res
  | [.ptr 4464 [], .ptr 4465 [], .ptr 4466 [], .ow 5 4467 [] 0 v0 none, .ptr 4468 [], .sc (.int .i64 v1),
  PV.sc
    (Value.int IntKind.i64
      v2)], [(4464, .box false 37 (PV.ar 37 v3)), (4465, .box false 118 (PV.ar 118 v4)), (4466, .box false 112 (PV.ar 112 v5)), (4467, .vec false 5 false v6),
  (4468,
    Ent.box false 118
      (PV.ar 118
        v7))], k => Z1 f (fun x0 x1 x2 x3 x4 x5 x6 => k (Ex.exit
  6) (Jc Y0 N28 [.ptr 4464 [], .ptr 4465 [], .ptr 4466 [], .ow 5 4467 [] 0 x0 none, .ptr 4468 [],
  PV.sc
    (Value.int IntKind.i64
      x1)] [(4464, .box false 37 (PV.ar 37 x2)), (4465, .box false 118 (PV.ar 118 x3)), (4466, .box false 112 (PV.ar 112 x4)), (4467, .vec false 5 false x5),
  (4468, .box false 118 (PV.ar 118 x6))])) f v0 v1 v2 v3 v4 v5 v6 v7
  | _, _, _ => none
theorem Jr8 (f : Nat) : Jg Jcq Je3 = [] := by kernel_rfl
theorem Jv4 (f : Nat) : (Item.l Jcq X2 N28 (G2 f)).Ok tau Try.prog 0 := JJ Jq XZ Jr (x := Je3) (nm2 := Y0) (Jp _ _ (by rw [Jr8 f]; intro q hq; cases hq)) fun vs hp k res hr => by
  unfold G2 at hr
  split at hr
  · exact ⟨f, 0, (Jh9 f _ f _ _ _ _ _ _ _ _ ).trans hr⟩
  · cases hr
def VP (f : Nat) (rc : Nat → Int → Int → List PV → List PV → List PV → List PV → List PV → Option Res) (k0 : Nat → Int → List PV → List PV → List PV → List PV → List PV → Option Res) (v0 : Nat) (v1 : Int) (v2 : Int) (v3 : List PV) (v4 : List PV) (v5 : List PV) (v6 : List PV) (v7 : List PV) : Option Res := bif decide (v2 < 64) then bif decide (0 ≤ IntKind.i64.wrap (v2 - 15)) && decide (IntKind.i64.wrap (v2 - 15) < zi 64) && true then bif PV.isInt IntKind.u32 (Jk (PV.ar 118 v7) [(IntKind.i64.wrap (v2 - 15)).toNat]) && true then bif decide (0 ≤ IntKind.i64.wrap (v2 - 2)) && decide (IntKind.i64.wrap (v2 - 2) < zi 64) && true then bif PV.isInt IntKind.u32 (Jk (PV.ar 118 v7) [(IntKind.i64.wrap (v2 - 2)).toNat]) && true then bif decide (0 ≤ IntKind.i64.wrap (v2 - 7)) && decide (IntKind.i64.wrap (v2 - 7) < zi 64) && true then bif PV.isInt IntKind.u32 (Jk (PV.ar 118 v7) [(IntKind.i64.wrap (v2 - 7)).toNat]) && true then bif decide (0 ≤ IntKind.i64.wrap (v2 - 16)) && decide (IntKind.i64.wrap (v2 - 16) < zi 64) && true then bif PV.isInt IntKind.u32 (Jk (PV.ar 118 v7) [(IntKind.i64.wrap (v2 - 16)).toNat]) && true then bif decide (0 ≤ v2) && decide (v2 < zi 64) && true then rc v0 v1 (IntKind.i64.wrap (v2 + 1)) v3 v4 v5 v6 (v7.set v2.toNat (.sc (.int .u32 (IntKind.u32.wrap (IntKind.u32.wrap (IntKind.u32.wrap (JC BinOp.xor IntKind.u32 (JC BinOp.xor IntKind.u32 (rr (Jk (PV.ar 118 v7) [(IntKind.i64.wrap (v2 - 2)).toNat]).int 17) (rr (Jk (PV.ar 118 v7) [(IntKind.i64.wrap (v2 - 2)).toNat]).int 19)) (Jw IntKind.u32 (Jk (PV.ar 118 v7) [(IntKind.i64.wrap (v2 - 2)).toNat]).int 10) + (Jk (PV.ar 118 v7) [(IntKind.i64.wrap (v2 - 7)).toNat]).int) + JC BinOp.xor IntKind.u32 (JC BinOp.xor IntKind.u32 (rr (Jk (PV.ar 118 v7) [(IntKind.i64.wrap (v2 - 15)).toNat]).int 7) (rr (Jk (PV.ar 118 v7) [(IntKind.i64.wrap (v2 - 15)).toNat]).int 18)) (Jw IntKind.u32 (Jk (PV.ar 118 v7) [(IntKind.i64.wrap (v2 - 15)).toNat]).int 3)) + (Jk (PV.ar 118 v7) [(IntKind.i64.wrap (v2 - 16)).toNat]).int))))) else none else none else none else none else none else none else none else none else none else k0 v0 v1 v3 v4 v5 v6 v7
def Z2 (f : Nat) (k0 : Nat → Int → List PV → List PV → List PV → List PV → List PV → Option Res) : Nat → Nat → Int → Int → List PV → List PV → List PV → List PV → List PV → Option Res
  | 0, _, _, _, _, _, _, _, _ => none
  | n + 1, v0, v1, v2, v3, v4, v5, v6, v7 => VP f (Z2 f k0 n) k0 v0 v1 v2 v3 v4 v5 v6 v7
theorem Jno (f : Nat) (k : Kont) (n : Nat) (v0 : Nat) (v1 : Int) (v2 : Int) (v3 : List PV) (v4 : List PV) (v5 : List PV) (v6 : List PV) (v7 : List PV) : Jo tau 0 X3 (fun s k => ev tau F28 0 0 Jcr (Je4 ) s k) (n + 1) (Jc X3 N28 [.ptr 4464 [], .ptr 4465 [], .ptr 4466 [], .ow 5 4467 [] 0 v0 none, .ptr 4468 [], .sc (.int .i64 v1), .sc (.int .i64 v2)] [(4464, .box false 37 (PV.ar 37 v3)), (4465, .box false 118 (PV.ar 118 v4)), (4466, .box false 112 (PV.ar 112 v5)), (4467, .vec false 5 false v6), (4468, .box false 118 (PV.ar 118 v7))]) (Jv tau 0 Y1 k) = VP f (fun v0 v1 v2 v3 v4 v5 v6 v7 => Jo tau 0 X3 (fun s k => ev tau F28 0 0 Jcr (Je4 ) s k) n (Jc X3 N28 [.ptr 4464 [], .ptr 4465 [], .ptr 4466 [], .ow 5 4467 [] 0 v0 none, .ptr 4468 [], .sc (.int .i64 v1), .sc (.int .i64 v2)] [(4464, .box false 37 (PV.ar 37 v3)), (4465, .box false 118 (PV.ar 118 v4)), (4466, .box false 112 (PV.ar 112 v5)), (4467, .vec false 5 false v6), (4468, .box false 118 (PV.ar 118 v7))]) (Jv tau 0 Y1 k)) (fun x0 x1 x2 x3 x4 x5 x6 => k (Ex.exit 8) (Jc Y1 N28 [.ptr 4464 [], .ptr 4465 [], .ptr 4466 [], .ow 5 4467 [] 0 x0 none, .ptr 4468 [], .sc (.int .i64 x1)] [(4464, .box false 37 (PV.ar 37 x2)), (4465, .box false 118 (PV.ar 118 x3)), (4466, .box false 112 (PV.ar 112 x4)), (4467, .vec false 5 false x5), (4468, .box false 118 (PV.ar 118 x6))])) v0 v1 v2 v3 v4 v5 v6 v7 := by kernel_rfl
theorem Jia (f : Nat) (k : Kont) : ∀ (n : Nat) (v0 : Nat) (v1 : Int) (v2 : Int) (v3 : List PV) (v4 : List PV) (v5 : List PV) (v6 : List PV) (v7 : List PV), Jo tau 0 X3 (fun s k => ev tau F28 0 0 Jcr (Je4 ) s k) n (Jc X3 N28 [.ptr 4464 [], .ptr 4465 [], .ptr 4466 [], .ow 5 4467 [] 0 v0 none, .ptr 4468 [], .sc (.int .i64 v1), .sc (.int .i64 v2)] [(4464, .box false 37 (PV.ar 37 v3)), (4465, .box false 118 (PV.ar 118 v4)), (4466, .box false 112 (PV.ar 112 v5)), (4467, .vec false 5 false v6), (4468, .box false 118 (PV.ar 118 v7))]) (Jv tau 0 Y1 k) = Z2 f (fun x0 x1 x2 x3 x4 x5 x6 => k (Ex.exit 8) (Jc Y1 N28 [.ptr 4464 [], .ptr 4465 [], .ptr 4466 [], .ow 5 4467 [] 0 x0 none, .ptr 4468 [], .sc (.int .i64 x1)] [(4464, .box false 37 (PV.ar 37 x2)), (4465, .box false 118 (PV.ar 118 x3)), (4466, .box false 112 (PV.ar 112 x4)), (4467, .vec false 5 false x5), (4468, .box false 118 (PV.ar 118 x6))])) n v0 v1 v2 v3 v4 v5 v6 v7 | 0, _, _, _, _, _, _, _, _ => rfl | n + 1, v0, v1, v2, v3, v4, v5, v6, v7 => (Jno f k n v0 v1 v2 v3 v4 v5 v6 v7).trans (congrArg (fun r => VP f r (fun x0 x1 x2 x3 x4 x5 x6 => k (Ex.exit 8) (Jc Y1 N28 [.ptr 4464 [], .ptr 4465 [], .ptr 4466 [], .ow 5 4467 [] 0 x0 none, .ptr 4468 [], .sc (.int .i64 x1)] [(4464, .box false 37 (PV.ar 37 x2)), (4465, .box false 118 (PV.ar 118 x3)), (4466, .box false 112 (PV.ar 112 x4)), (4467, .vec false 5 false x5), (4468, .box false 118 (PV.ar 118 x6))])) v0 v1 v2 v3 v4 v5 v6 v7) (by funext v0 v1 v2 v3 v4 v5 v6 v7; exact Jia f k n v0 v1 v2 v3 v4 v5 v6 v7))
def G3 (f : Nat) : List PV → List (Nat × Ent) → Kont → Option Res
  | [.ptr 4464 [], .ptr 4465 [], .ptr 4466 [], .ow 5 4467 [] 0 v0 none, .ptr 4468 [], .sc (.int .i64 v1),
  PV.sc
    (Value.int IntKind.i64
      v2)], [(4464, .box false 37 (PV.ar 37 v3)), (4465, .box false 118 (PV.ar 118 v4)), (4466, .box false 112 (PV.ar 112 v5)), (4467, .vec false 5 false v6),
  (4468,
    Ent.box false 118
      (PV.ar 118
        v7))], k => Z2 f (fun x0 x1 x2 x3 x4 x5 x6 => k (Ex.exit
  8) (Jc Y1 N28 [.ptr 4464 [], .ptr 4465 [], .ptr 4466 [], .ow 5 4467 [] 0 x0 none, .ptr 4468 [],
  PV.sc
    (Value.int IntKind.i64
      x1)] [(4464, .box false 37 (PV.ar 37 x2)), (4465, .box false 118 (PV.ar 118 x3)), (4466, .box false 112 (PV.ar 112 x4)), (4467, .vec false 5 false x5),
  (4468, .box false 118 (PV.ar 118 x6))])) f v0 v1 v2 v3 v4 v5 v6 v7
  | _, _, _ => none
theorem Jr9 (f : Nat) : Jg Jcr Je4 = [] := by kernel_rfl
theorem Jv5 (f : Nat) : (Item.l Jcr X3 N28 (G3 f)).Ok tau Try.prog 0 := JJ Jq XZ Jr (x := Je4) (nm2 := Y1) (Jp _ _ (by rw [Jr9 f]; intro q hq; cases hq)) fun vs hp k res hr => by
  unfold G3 at hr
  split at hr
  · exact ⟨f, 0, (Jia f _ f _ _ _ _ _ _ _ _ ).trans hr⟩
  · cases hr
def VQ (f : Nat) (rc : Nat → Int → Int → List PV → List PV → List PV → List PV → List PV → List PV → Option Res) (k0 : Nat → Int → List PV → List PV → List PV → List PV → List PV → List PV → Option Res) (v0 : Nat) (v1 : Int) (v2 : Int) (v3 : List PV) (v4 : List PV) (v5 : List PV) (v6 : List PV) (v7 : List PV) (v8 : List PV) : Option Res := bif decide (v2 < 64) then bif PV.isInt IntKind.u32 (Jk (PV.ar 112 v8) [4]) && true then bif PV.isInt IntKind.u32 (Jk (PV.ar 112 v8) [7]) && true then bif PV.isInt IntKind.u32 (Jk (PV.ar 112 v8) [5]) && true then bif PV.isInt IntKind.u32 (Jk (PV.ar 112 v8) [6]) && true then bif decide (0 ≤ v2) && decide (v2 < zi 64) && true then bif PV.isInt IntKind.u32 (Jk (PV.ar 118 v4) [v2.toNat]) && true then bif decide (0 ≤ v2) && decide (v2 < zi 64) && true then bif PV.isInt IntKind.u32 (Jk (PV.ar 118 v7) [v2.toNat]) && true then bif PV.isInt IntKind.u32 (Jk (PV.ar 112 v8) [0]) && true then bif PV.isInt IntKind.u32 (Jk (PV.ar 112 v8) [0]) && true then bif PV.isInt IntKind.u32 (Jk (PV.ar 112 v8) [0]) && true then bif PV.isInt IntKind.u32 (Jk (PV.ar 112 v8) [0]) && true then bif PV.isInt IntKind.u32 (Jk (PV.ar 112 v8) [1]) && true then bif PV.isInt IntKind.u32 (Jk (PV.ar 112 v8) [0]) && true then bif PV.isInt IntKind.u32 (Jk (PV.ar 112 v8) [2]) && true then bif PV.isInt IntKind.u32 (Jk (PV.ar 112 v8) [1]) && true then bif PV.isInt IntKind.u32 (Jk (PV.ar 112 v8) [2]) && true then bif PV.isInt IntKind.u32 (Jk (PV.ar 112 v8) [0]) && true then bif PV.isInt IntKind.u32 (Jk (PV.ar 112 v8) [1]) && true then bif PV.isInt IntKind.u32 (Jk (PV.ar 112 v8) [2]) && true then bif PV.isInt IntKind.u32 (Jk (PV.ar 112 v8) [3]) && true then bif PV.isInt IntKind.u32 (Jk (PV.ar 112 v8) [4]) && true then bif PV.isInt IntKind.u32 (Jk (PV.ar 112 v8) [5]) && true then bif PV.isInt IntKind.u32 (Jk (PV.ar 112 v8) [6]) && true then rc v0 v1 (IntKind.i64.wrap (v2 + 1)) v3 v4 v5 v6 v7 ([.sc (.int .u32 (IntKind.u32.wrap (IntKind.u32.wrap (IntKind.u32.wrap (IntKind.u32.wrap (IntKind.u32.wrap ((Jk (PV.ar 112 v8) [7]).int + JC BinOp.xor IntKind.u32 (JC BinOp.xor IntKind.u32 (rr (Jk (PV.ar 112 v8) [4]).int 6) (rr (Jk (PV.ar 112 v8) [4]).int 11)) (rr (Jk (PV.ar 112 v8) [4]).int 25)) + JC BinOp.xor IntKind.u32 (JC BinOp.and IntKind.u32 (Jk (PV.ar 112 v8) [4]).int (Jk (PV.ar 112 v8) [5]).int) (JC BinOp.and IntKind.u32 (JC BinOp.xor IntKind.u32 (Int.ofNat (2 ^ IntKind.u32.bits - Nat.succ 0)) (Jk (PV.ar 112 v8) [4]).int) (Jk (PV.ar 112 v8) [6]).int)) + (Jk (PV.ar 118 v4) [v2.toNat]).int) + (Jk (PV.ar 118 v7) [v2.toNat]).int) + IntKind.u32.wrap (JC BinOp.xor IntKind.u32 (JC BinOp.xor IntKind.u32 (rr (Jk (PV.ar 112 v8) [0]).int 2) (rr (Jk (PV.ar 112 v8) [0]).int 13)) (rr (Jk (PV.ar 112 v8) [0]).int 22) + JC BinOp.xor IntKind.u32 (JC BinOp.xor IntKind.u32 (JC BinOp.and IntKind.u32 (Jk (PV.ar 112 v8) [0]).int (Jk (PV.ar 112 v8) [1]).int) (JC BinOp.and IntKind.u32 (Jk (PV.ar 112 v8) [0]).int (Jk (PV.ar 112 v8) [2]).int)) (JC BinOp.and IntKind.u32 (Jk (PV.ar 112 v8) [1]).int (Jk (PV.ar 112 v8) [2]).int))))), .sc (.int .u32 (Jk (PV.ar 112 v8) [0]).int), .sc (.int .u32 (Jk (PV.ar 112 v8) [1]).int), .sc (.int .u32 (Jk (PV.ar 112 v8) [2]).int), .sc (.int .u32 (IntKind.u32.wrap ((Jk (PV.ar 112 v8) [3]).int + IntKind.u32.wrap (IntKind.u32.wrap (IntKind.u32.wrap (IntKind.u32.wrap ((Jk (PV.ar 112 v8) [7]).int + JC BinOp.xor IntKind.u32 (JC BinOp.xor IntKind.u32 (rr (Jk (PV.ar 112 v8) [4]).int 6) (rr (Jk (PV.ar 112 v8) [4]).int 11)) (rr (Jk (PV.ar 112 v8) [4]).int 25)) + JC BinOp.xor IntKind.u32 (JC BinOp.and IntKind.u32 (Jk (PV.ar 112 v8) [4]).int (Jk (PV.ar 112 v8) [5]).int) (JC BinOp.and IntKind.u32 (JC BinOp.xor IntKind.u32 (Int.ofNat (2 ^ IntKind.u32.bits - Nat.succ 0)) (Jk (PV.ar 112 v8) [4]).int) (Jk (PV.ar 112 v8) [6]).int)) + (Jk (PV.ar 118 v4) [v2.toNat]).int) + (Jk (PV.ar 118 v7) [v2.toNat]).int)))), .sc (.int .u32 (Jk (PV.ar 112 v8) [4]).int), .sc (.int .u32 (Jk (PV.ar 112 v8) [5]).int), .sc (.int .u32 (Jk (PV.ar 112 v8) [6]).int)]) else none else none else none else none else none else none else none else none else none else none else none else none else none else none else none else none else none else none else none else none else none else none else none else none else k0 v0 v1 v3 v4 v5 v6 v7 v8
def Z3 (f : Nat) (k0 : Nat → Int → List
  PV → List PV → List PV → List PV → List PV → List PV → Option Res) : Nat → Nat → Int → Int → List PV → List PV → List PV → List PV → List PV → List PV → Option Res
  | 0, _, _, _, _, _, _, _, _, _ => none
  | n + 1, v0, v1, v2, v3, v4, v5, v6, v7, v8 => VQ f (Z3 f k0 n) k0 v0 v1 v2 v3 v4 v5 v6 v7 v8
theorem Jnp (f : Nat) (k : Kont) (n : Nat) (v0 : Nat) (v1 : Int) (v2 : Int) (v3 : List PV) (v4 : List PV) (v5 : List PV) (v6 : List PV) (v7 : List PV) (v8 : List PV) : Jo tau 0 X4 (fun s k => ev tau F28 0 0 Jcs (Je5 ) s k) (n + 1) (Jc X4 N28 [.ptr 4464 [], .ptr 4465 [], .ptr 4466 [], .ow 5 4467 [] 0 v0 none, .ptr 4468 [], .sc (.int .i64 v1), .ptr 4469 [], .sc (.int .i64 v2)] [(4464, .box false 37 (PV.ar 37 v3)), (4465, .box false 118 (PV.ar 118 v4)), (4466, .box false 112 (PV.ar 112 v5)), (4467, .vec false 5 false v6), (4468, .box false 118 (PV.ar 118 v7)), (4469, .box false 112 (PV.ar 112 v8))]) (Jv tau 0 Y2 k) = VQ f (fun v0 v1 v2 v3 v4 v5 v6 v7 v8 => Jo tau 0 X4 (fun s k => ev tau F28 0 0 Jcs (Je5 ) s k) n (Jc X4 N28 [.ptr 4464 [], .ptr 4465 [], .ptr 4466 [], .ow 5 4467 [] 0 v0 none, .ptr 4468 [], .sc (.int .i64 v1), .ptr 4469 [], .sc (.int .i64 v2)] [(4464, .box false 37 (PV.ar 37 v3)), (4465, .box false 118 (PV.ar 118 v4)), (4466, .box false 112 (PV.ar 112 v5)), (4467, .vec false 5 false v6), (4468, .box false 118 (PV.ar 118 v7)), (4469, .box false 112 (PV.ar 112 v8))]) (Jv tau 0 Y2 k)) (fun x0 x1 x2 x3 x4 x5 x6 x7 => k (Ex.exit 10) (Jc Y2 N28 [.ptr 4464 [], .ptr 4465 [], .ptr 4466 [], .ow 5 4467 [] 0 x0 none, .ptr 4468 [], .sc (.int .i64 x1), .ptr 4469 []] [(4464, .box false 37 (PV.ar 37 x2)), (4465, .box false 118 (PV.ar 118 x3)), (4466, .box false 112 (PV.ar 112 x4)), (4467, .vec false 5 false x5), (4468, .box false 118 (PV.ar 118 x6)), (4469, .box false 112 (PV.ar 112 x7))])) v0 v1 v2 v3 v4 v5 v6 v7 v8 := by kernel_rfl
theorem Jib (f : Nat) (k : Kont) : ∀ (n : Nat) (v0 : Nat) (v1 : Int) (v2 : Int) (v3 : List PV) (v4 : List PV) (v5 : List PV) (v6 : List PV) (v7 : List PV) (v8 : List PV), Jo tau 0 X4 (fun s k => ev tau F28 0 0 Jcs (Je5 ) s k) n (Jc X4 N28 [.ptr 4464 [], .ptr 4465 [], .ptr 4466 [], .ow 5 4467 [] 0 v0 none, .ptr 4468 [], .sc (.int .i64 v1), .ptr 4469 [], .sc (.int .i64 v2)] [(4464, .box false 37 (PV.ar 37 v3)), (4465, .box false 118 (PV.ar 118 v4)), (4466, .box false 112 (PV.ar 112 v5)), (4467, .vec false 5 false v6), (4468, .box false 118 (PV.ar 118 v7)), (4469, .box false 112 (PV.ar 112 v8))]) (Jv tau 0 Y2 k) = Z3 f (fun x0 x1 x2 x3 x4 x5 x6 x7 => k (Ex.exit 10) (Jc Y2 N28 [.ptr 4464 [], .ptr 4465 [], .ptr 4466 [], .ow 5 4467 [] 0 x0 none, .ptr 4468 [], .sc (.int .i64 x1), .ptr 4469 []] [(4464, .box false 37 (PV.ar 37 x2)), (4465, .box false 118 (PV.ar 118 x3)), (4466, .box false 112 (PV.ar 112 x4)), (4467, .vec false 5 false x5), (4468, .box false 118 (PV.ar 118 x6)), (4469, .box false 112 (PV.ar 112 x7))])) n v0 v1 v2 v3 v4 v5 v6 v7 v8 | 0, _, _, _, _, _, _, _, _, _ => rfl | n + 1, v0, v1, v2, v3, v4, v5, v6, v7, v8 => (Jnp f k n v0 v1 v2 v3 v4 v5 v6 v7 v8).trans (congrArg (fun r => VQ f r (fun x0 x1 x2 x3 x4 x5 x6 x7 => k (Ex.exit 10) (Jc Y2 N28 [.ptr 4464 [], .ptr 4465 [], .ptr 4466 [], .ow 5 4467 [] 0 x0 none, .ptr 4468 [], .sc (.int .i64 x1), .ptr 4469 []] [(4464, .box false 37 (PV.ar 37 x2)), (4465, .box false 118 (PV.ar 118 x3)), (4466, .box false 112 (PV.ar 112 x4)), (4467, .vec false 5 false x5), (4468, .box false 118 (PV.ar 118 x6)), (4469, .box false 112 (PV.ar 112 x7))])) v0 v1 v2 v3 v4 v5 v6 v7 v8) (by funext v0 v1 v2 v3 v4 v5 v6 v7 v8; exact Jib f k n v0 v1 v2 v3 v4 v5 v6 v7 v8))
def G4 (f : Nat) : List PV → List (Nat × Ent) → Kont → Option Res
  | [.ptr 4464 [], .ptr 4465 [], .ptr 4466 [], .ow 5 4467 [] 0 v0 none, .ptr 4468 [], .sc (.int .i64 v1), .ptr 4469 [],
  PV.sc
    (Value.int IntKind.i64
      v2)], [(4464, .box false 37 (PV.ar 37 v3)), (4465, .box false 118 (PV.ar 118 v4)), (4466, .box false 112 (PV.ar 112 v5)), (4467, .vec false 5 false v6),
  (4468, .box false 118 (PV.ar 118 v7)),
  (4469,
    Ent.box false 112
      (PV.ar 112
        v8))], k => Z3 f (fun x0 x1 x2 x3 x4 x5 x6 x7 => k (Ex.exit
  10) (Jc Y2 N28 [.ptr 4464 [], .ptr 4465 [], .ptr 4466 [], .ow 5 4467 [] 0 x0 none, .ptr 4468 [], .sc (.int .i64 x1),
  PV.ptr 4469
    []] [(4464, .box false 37 (PV.ar 37 x2)), (4465, .box false 118 (PV.ar 118 x3)), (4466, .box false 112 (PV.ar 112 x4)), (4467, .vec false 5 false x5),
  (4468, .box false 118 (PV.ar 118 x6)), (4469, .box false 112 (PV.ar 112 x7))])) f v0 v1 v2 v3 v4 v5 v6 v7 v8
  | _, _, _ => none
theorem Jsa (f : Nat) : Jg Jcs Je5 = [] := by kernel_rfl
theorem Jv6 (f : Nat) : (Item.l Jcs X4 N28 (G4 f)).Ok tau Try.prog 0 := JJ Jq XZ Jr (x := Je5) (nm2 := Y2) (Jp _ _ (by rw [Jsa f]; intro q hq; cases hq)) fun vs hp k res hr => by
  unfold G4 at hr
  split at hr
  · exact ⟨f, 0, (Jib f _ f _ _ _ _ _ _ _ _ _ ).trans hr⟩
  · cases hr
def VR (f : Nat) (rc : Nat → Int → Int → List PV → List PV → List PV → List PV → List PV → List PV → Option Res) (k0 : Nat → Int → List PV → List PV → List PV → List PV → List PV → Option Res) (v0 : Nat) (v1 : Int) (v2 : Int) (v3 : List PV) (v4 : List PV) (v5 : List PV) (v6 : List PV) (v7 : List PV) (v8 : List PV) : Option Res := bif decide (v2 < 8) then bif decide (0 ≤ v2) && decide (v2 < zi 8) && true then bif PV.isInt IntKind.u32 (Jk (PV.ar 112 v5) [v2.toNat]) && true then bif decide (0 ≤ v2) && decide (v2 < zi 8) && true then bif PV.isInt IntKind.u32 (Jk (PV.ar 112 v8) [v2.toNat]) && true then bif decide (0 ≤ v2) && decide (v2 < zi 8) && true then rc v0 v1 (IntKind.i64.wrap (v2 + 1)) v3 v4 (v5.set v2.toNat (.sc (.int .u32 (IntKind.u32.wrap ((Jk (PV.ar 112 v5) [v2.toNat]).int + (Jk (PV.ar 112 v8) [v2.toNat]).int))))) v6 v7 v8 else none else none else none else none else none else k0 v0 v1 v3 v4 v5 v6 v7
def Z4 (f : Nat) (k0 : Nat → Int → List PV → List PV → List PV → List PV → List PV → Option Res) : Nat → Nat → Int → Int → List PV → List PV → List PV → List PV → List PV → List PV → Option Res
  | 0, _, _, _, _, _, _, _, _, _ => none
  | n + 1, v0, v1, v2, v3, v4, v5, v6, v7, v8 => VR f (Z4 f k0 n) k0 v0 v1 v2 v3 v4 v5 v6 v7 v8
theorem Jnq (f : Nat) (k : Kont) (n : Nat) (v0 : Nat) (v1 : Int) (v2 : Int) (v3 : List PV) (v4 : List PV) (v5 : List PV) (v6 : List PV) (v7 : List PV) (v8 : List PV) : Jo tau 0 X5 (fun s k => ev tau F28 0 0 Jct (Je6 ) s k) (n + 1) (Jc X5 N28 [.ptr 4464 [], .ptr 4465 [], .ptr 4466 [], .ow 5 4467 [] 0 v0 none, .ptr 4468 [], .sc (.int .i64 v1), .ptr 4469 [], .sc (.int .i64 v2)] [(4464, .box false 37 (PV.ar 37 v3)), (4465, .box false 118 (PV.ar 118 v4)), (4466, .box false 112 (PV.ar 112 v5)), (4467, .vec false 5 false v6), (4468, .box false 118 (PV.ar 118 v7)), (4469, .box false 112 (PV.ar 112 v8))]) (Jv tau 0 Y3 k) = VR f (fun v0 v1 v2 v3 v4 v5 v6 v7 v8 => Jo tau 0 X5 (fun s k => ev tau F28 0 0 Jct (Je6 ) s k) n (Jc X5 N28 [.ptr 4464 [], .ptr 4465 [], .ptr 4466 [], .ow 5 4467 [] 0 v0 none, .ptr 4468 [], .sc (.int .i64 v1), .ptr 4469 [], .sc (.int .i64 v2)] [(4464, .box false 37 (PV.ar 37 v3)), (4465, .box false 118 (PV.ar 118 v4)), (4466, .box false 112 (PV.ar 112 v5)), (4467, .vec false 5 false v6), (4468, .box false 118 (PV.ar 118 v7)), (4469, .box false 112 (PV.ar 112 v8))]) (Jv tau 0 Y3 k)) (fun x0 x1 x2 x3 x4 x5 x6 => k (Ex.exit 12) (Jc Y3 N28 [.ptr 4464 [], .ptr 4465 [], .ptr 4466 [], .ow 5 4467 [] 0 x0 none, .ptr 4468 [], .sc (.int .i64 x1)] [(4464, .box false 37 (PV.ar 37 x2)), (4465, .box false 118 (PV.ar 118 x3)), (4466, .box false 112 (PV.ar 112 x4)), (4467, .vec false 5 false x5), (4468, .box false 118 (PV.ar 118 x6))])) v0 v1 v2 v3 v4 v5 v6 v7 v8 := by kernel_rfl
theorem Jic (f : Nat) (k : Kont) : ∀ (n : Nat) (v0 : Nat) (v1 : Int) (v2 : Int) (v3 : List PV) (v4 : List PV) (v5 : List PV) (v6 : List PV) (v7 : List PV) (v8 : List PV), Jo tau 0 X5 (fun s k => ev tau F28 0 0 Jct (Je6 ) s k) n (Jc X5 N28 [.ptr 4464 [], .ptr 4465 [], .ptr 4466 [], .ow 5 4467 [] 0 v0 none, .ptr 4468 [], .sc (.int .i64 v1), .ptr 4469 [], .sc (.int .i64 v2)] [(4464, .box false 37 (PV.ar 37 v3)), (4465, .box false 118 (PV.ar 118 v4)), (4466, .box false 112 (PV.ar 112 v5)), (4467, .vec false 5 false v6), (4468, .box false 118 (PV.ar 118 v7)), (4469, .box false 112 (PV.ar 112 v8))]) (Jv tau 0 Y3 k) = Z4 f (fun x0 x1 x2 x3 x4 x5 x6 => k (Ex.exit 12) (Jc Y3 N28 [.ptr 4464 [], .ptr 4465 [], .ptr 4466 [], .ow 5 4467 [] 0 x0 none, .ptr 4468 [], .sc (.int .i64 x1)] [(4464, .box false 37 (PV.ar 37 x2)), (4465, .box false 118 (PV.ar 118 x3)), (4466, .box false 112 (PV.ar 112 x4)), (4467, .vec false 5 false x5), (4468, .box false 118 (PV.ar 118 x6))])) n v0 v1 v2 v3 v4 v5 v6 v7 v8 | 0, _, _, _, _, _, _, _, _, _ => rfl | n + 1, v0, v1, v2, v3, v4, v5, v6, v7, v8 => (Jnq f k n v0 v1 v2 v3 v4 v5 v6 v7 v8).trans (congrArg (fun r => VR f r (fun x0 x1 x2 x3 x4 x5 x6 => k (Ex.exit 12) (Jc Y3 N28 [.ptr 4464 [], .ptr 4465 [], .ptr 4466 [], .ow 5 4467 [] 0 x0 none, .ptr 4468 [], .sc (.int .i64 x1)] [(4464, .box false 37 (PV.ar 37 x2)), (4465, .box false 118 (PV.ar 118 x3)), (4466, .box false 112 (PV.ar 112 x4)), (4467, .vec false 5 false x5), (4468, .box false 118 (PV.ar 118 x6))])) v0 v1 v2 v3 v4 v5 v6 v7 v8) (by funext v0 v1 v2 v3 v4 v5 v6 v7 v8; exact Jic f k n v0 v1 v2 v3 v4 v5 v6 v7 v8))
def G5 (f : Nat) : List PV → List (Nat × Ent) → Kont → Option Res
  | [.ptr 4464 [], .ptr 4465 [], .ptr 4466 [], .ow 5 4467 [] 0 v0 none, .ptr 4468 [], .sc (.int .i64 v1), .ptr 4469 [],
  PV.sc
    (Value.int IntKind.i64
      v2)], [(4464, .box false 37 (PV.ar 37 v3)), (4465, .box false 118 (PV.ar 118 v4)), (4466, .box false 112 (PV.ar 112 v5)), (4467, .vec false 5 false v6),
  (4468, .box false 118 (PV.ar 118 v7)),
  (4469,
    Ent.box false 112
      (PV.ar 112
        v8))], k => Z4 f (fun x0 x1 x2 x3 x4 x5 x6 => k (Ex.exit
  12) (Jc Y3 N28 [.ptr 4464 [], .ptr 4465 [], .ptr 4466 [], .ow 5 4467 [] 0 x0 none, .ptr 4468 [],
  PV.sc
    (Value.int IntKind.i64
      x1)] [(4464, .box false 37 (PV.ar 37 x2)), (4465, .box false 118 (PV.ar 118 x3)), (4466, .box false 112 (PV.ar 112 x4)), (4467, .vec false 5 false x5),
  (4468, .box false 118 (PV.ar 118 x6))])) f v0 v1 v2 v3 v4 v5 v6 v7 v8
  | _, _, _ => none
theorem Jsb (f : Nat) : Jg Jct Je6 = [] := by kernel_rfl
theorem Jv7 (f : Nat) : (Item.l Jct X5 N28 (G5 f)).Ok tau Try.prog 0 := JJ Jq XZ Jr (x := Je6) (nm2 := Y3) (Jp _ _ (by rw [Jsb f]; intro q hq; cases hq)) fun vs hp k res hr => by
  unfold G5 at hr
  split at hr
  · exact ⟨f, 0, (Jic f _ f _ _ _ _ _ _ _ _ _ ).trans hr⟩
  · cases hr
def VS (f : Nat) (rc : Nat → Int → List PV → List PV → List PV → List PV → List PV → Option Res) (k0 : List PV → List PV → Option Res) (v0 : Nat) (v1 : Int) (v2 : List PV) (v3 : List PV) (v4 : List PV) (v5 : List PV) (v6 : List PV) : Option Res := bif decide (v1 < zi v0) then Z1 f (fun x0_2 x1_2 x2_2 x3_2 x4_2 x5_2 x6_2 => Z2 f (fun x0_3 x1_3 x2_3 x3_3 x4_3 x5_3 x6_3 => Z3 f (fun x0_4 x1_4 x2_4 x3_4 x4_4 x5_4 x6_4 x7_4 => Z4 f (fun x0_5 x1_5 x2_5 x3_5 x4_5 x5_5 x6_5 => rc x0_5 (IntKind.i64.wrap (x1_5 + 64)) x2_5 x3_5 x4_5 x5_5 x6_5) f x0_4 x1_4 (0) x2_4 x3_4 x4_4 x5_4 x6_4 x7_4) f x0_3 x1_3 (0) x2_3 x3_3 x4_3 x5_3 x6_3 x4_3) f x0_2 x1_2 (16) x2_2 x3_2 x4_2 x5_2 x6_2) f v0 v1 (0) v2 v3 v4 v5 v6 else k0 v2 v4
def Z5 (f : Nat) (k0 : List PV → List PV → Option Res) : Nat → Nat → Int → List PV → List PV → List PV → List PV → List PV → Option Res
  | 0, _, _, _, _, _, _, _ => none
  | n + 1, v0, v1, v2, v3, v4, v5, v6 => VS f (Z5 f k0 n) k0 v0 v1 v2 v3 v4 v5 v6
theorem Jnr (f : Nat) (k : Kont) (n : Nat) (v0 : Nat) (v1 : Int) (v2 : List PV) (v3 : List PV) (v4 : List PV) (v5 : List PV) (v6 : List PV) : Jo tau 0 X6 (fun s k => ev tau F28 0 0 Jcu (Je7 (G2 f) (G3 f) (G4 f) (G5 f)) s k) (n + 1) (Jc X6 N28 [.ptr 4464 [], .ptr 4465 [], .ptr 4466 [], .ow 5 4467 [] 0 v0 none, .ptr 4468 [], .sc (.int .i64 v1)] [(4464, .box false 37 (PV.ar 37 v2)), (4465, .box false 118 (PV.ar 118 v3)), (4466, .box false 112 (PV.ar 112 v4)), (4467, .vec false 5 false v5), (4468, .box false 118 (PV.ar 118 v6))]) (Jv tau 0 Y4 k) = VS f (fun v0 v1 v2 v3 v4 v5 v6 => Jo tau 0 X6 (fun s k => ev tau F28 0 0 Jcu (Je7 (G2 f) (G3 f) (G4 f) (G5 f)) s k) n (Jc X6 N28 [.ptr 4464 [], .ptr 4465 [], .ptr 4466 [], .ow 5 4467 [] 0 v0 none, .ptr 4468 [], .sc (.int .i64 v1)] [(4464, .box false 37 (PV.ar 37 v2)), (4465, .box false 118 (PV.ar 118 v3)), (4466, .box false 112 (PV.ar 112 v4)), (4467, .vec false 5 false v5), (4468, .box false 118 (PV.ar 118 v6))]) (Jv tau 0 Y4 k)) (fun x0 x1 => k (Ex.exit 4) (Jc Y4 N28 [.ptr 4464 [], .ptr 4465 []] [(4464, .box false 37 (PV.ar 37 x0)), (4465, .box false 112 (PV.ar 112 x1))])) v0 v1 v2 v3 v4 v5 v6 := by kernel_rfl
theorem Jid (f : Nat) (k : Kont) : ∀ (n : Nat) (v0 : Nat) (v1 : Int) (v2 : List PV) (v3 : List PV) (v4 : List PV) (v5 : List PV) (v6 : List PV), Jo tau 0 X6 (fun s k => ev tau F28 0 0 Jcu (Je7 (G2 f) (G3 f) (G4 f) (G5 f)) s k) n (Jc X6 N28 [.ptr 4464 [], .ptr 4465 [], .ptr 4466 [], .ow 5 4467 [] 0 v0 none, .ptr 4468 [], .sc (.int .i64 v1)] [(4464, .box false 37 (PV.ar 37 v2)), (4465, .box false 118 (PV.ar 118 v3)), (4466, .box false 112 (PV.ar 112 v4)), (4467, .vec false 5 false v5), (4468, .box false 118 (PV.ar 118 v6))]) (Jv tau 0 Y4 k) = Z5 f (fun x0 x1 => k (Ex.exit 4) (Jc Y4 N28 [.ptr 4464 [], .ptr 4465 []] [(4464, .box false 37 (PV.ar 37 x0)), (4465, .box false 112 (PV.ar 112 x1))])) n v0 v1 v2 v3 v4 v5 v6 | 0, _, _, _, _, _, _, _ => rfl | n + 1, v0, v1, v2, v3, v4, v5, v6 => (Jnr f k n v0 v1 v2 v3 v4 v5 v6).trans (congrArg (fun r => VS f r (fun x0 x1 => k (Ex.exit 4) (Jc Y4 N28 [.ptr 4464 [], .ptr 4465 []] [(4464, .box false 37 (PV.ar 37 x0)), (4465, .box false 112 (PV.ar 112 x1))])) v0 v1 v2 v3 v4 v5 v6) (by funext v0 v1 v2 v3 v4 v5 v6; exact Jid f k n v0 v1 v2 v3 v4 v5 v6))
def Jbg (f : Nat) : List PV → List (Nat × Ent) → Kont → Option Res
  | [.ptr 4464 [], .ptr 4465 [], .ptr 4466 [], .ow 5 4467 [] 0 v0 none, .ptr 4468 [],
  PV.sc
    (Value.int IntKind.i64
      v1)], [(4464, .box false 37 (PV.ar 37 v2)), (4465, .box false 118 (PV.ar 118 v3)), (4466, .box false 112 (PV.ar 112 v4)), (4467, .vec false 5 false v5),
  (4468,
    Ent.box false 118
      (PV.ar 118
        v6))], k => Z5 f (fun x0 x1 => k (Ex.exit
  4) (Jc Y4 N28 [.ptr 4464 [], .ptr 4465 []] [(4464, .box false 37 (PV.ar 37 x0)), (4465, .box false 112 (PV.ar 112 x1))])) f v0 v1 v2 v3 v4 v5 v6
  | _, _, _ => none
theorem Jsc (f : Nat) : Jg Jcu (Je7 (G2 f) (G3 f) (G4 f) (G5 f)) = [.l Jcq X2 N28 (G2 f), .l Jcr X3 N28 (G3 f), .l Jcs X4 N28 (G4 f), .l Jct X5 N28 (G5 f)] := by kernel_rfl
theorem Jv8 (f : Nat) : (Item.l Jcu X6 N28 (Jbg f)).Ok tau Try.prog 0 := JJ Jq XZ Jr (x := (Je7 (G2 f) (G3 f) (G4 f) (G5 f))) (nm2 := Y4) (Jp _ _ (by rw [Jsc f]; simp only [List.forall_mem_cons, List.not_mem_nil, false_implies, implies_true, and_true]; exact ⟨Jv4 f, Jv5 f, Jv6 f, Jv7 f⟩)) fun vs hp k res hr => by
  unfold Jbg at hr
  split at hr
  · exact ⟨f, 0, (Jid f _ f _ _ _ _ _ _ _ ).trans hr⟩
  · cases hr
def VT (f : Nat) (rc : Int → List PV → List PV → List PV → Option Res) (k0 : List PV → List PV → Option Res) (v0 : Int) (v1 : List PV) (v2 : List PV) (v3 : List PV) : Option Res := bif decide (v0 < 8) then bif decide (0 ≤ v0) && decide (v0 < zi 8) && true then bif PV.isInt IntKind.u32 (Jk (PV.ar 112 v2) [v0.toNat]) && true then bif decide (0 ≤ v0) && decide (v0 < zi 8) && true then bif PV.isInt IntKind.u32 (Jk (PV.ar 112 v2) [v0.toNat]) && true then bif decide (0 ≤ v0) && decide (v0 < zi 8) && true then bif PV.isInt IntKind.u32 (Jk (PV.ar 112 v2) [v0.toNat]) && true then bif decide (0 ≤ v0) && decide (v0 < zi 8) && true then bif PV.isInt IntKind.u32 (Jk (PV.ar 112 v2) [v0.toNat]) && true then bif decide (0 ≤ IntKind.i64.wrap (4 * v0)) && decide (IntKind.i64.wrap (4 * v0) < zi 32) && true then bif decide (0 ≤ IntKind.i64.wrap (IntKind.i64.wrap (4 * v0) + 1)) && decide (IntKind.i64.wrap (IntKind.i64.wrap (4 * v0) + 1) < zi 32) && true then bif decide (0 ≤ IntKind.i64.wrap (IntKind.i64.wrap (4 * v0) + 2)) && decide (IntKind.i64.wrap (IntKind.i64.wrap (4 * v0) + 2) < zi 32) && true then bif decide (0 ≤ IntKind.i64.wrap (IntKind.i64.wrap (4 * v0) + 3)) && decide (IntKind.i64.wrap (IntKind.i64.wrap (4 * v0) + 3) < zi 32) && true then rc (IntKind.i64.wrap (v0 + 1)) v1 v2 ((((v3.set (IntKind.i64.wrap (4 * v0)).toNat (.sc (.int .u8 (IntKind.u8.wrap (Jw IntKind.u32 (Jk (PV.ar 112 v2) [v0.toNat]).int 24))))).set (IntKind.i64.wrap (IntKind.i64.wrap (4 * v0) + 1)).toNat (.sc (.int .u8 (IntKind.u8.wrap (Jw IntKind.u32 (Jk (PV.ar 112 v2) [v0.toNat]).int 16))))).set (IntKind.i64.wrap (IntKind.i64.wrap (4 * v0) + 2)).toNat (.sc (.int .u8 (IntKind.u8.wrap (Jw IntKind.u32 (Jk (PV.ar 112 v2) [v0.toNat]).int 8))))).set (IntKind.i64.wrap (IntKind.i64.wrap (4 * v0) + 3)).toNat (.sc (.int .u8 (IntKind.u8.wrap (Jk (PV.ar 112 v2) [v0.toNat]).int)))) else none else none else none else none else none else none else none else none else none else none else none else none else k0 v1 v3
def Z6 (f : Nat) (k0 : List PV → List PV → Option Res) : Nat → Int → List PV → List PV → List PV → Option Res
  | 0, _, _, _, _ => none
  | n + 1, v0, v1, v2, v3 => VT f (Z6 f k0 n) k0 v0 v1 v2 v3
theorem Jns (f : Nat) (k : Kont) (n : Nat) (v0 : Int) (v1 : List PV) (v2 : List PV) (v3 : List PV) : Jo tau 0 X7 (fun s k => ev tau F28 0 0 Jcv (Je8 ) s k) (n + 1) (Jc X7 N28 [.ptr 4464 [], .ptr 4465 [], .ptr 4466 [], .sc (.int .i64 v0)] [(4464, .box false 37 (PV.ar 37 v1)), (4465, .box false 112 (PV.ar 112 v2)), (4466, .box false 37 (PV.ar 37 v3))]) (Jv tau 0 Y5 k) = VT f (fun v0 v1 v2 v3 => Jo tau 0 X7 (fun s k => ev tau F28 0 0 Jcv (Je8 ) s k) n (Jc X7 N28 [.ptr 4464 [], .ptr 4465 [], .ptr 4466 [], .sc (.int .i64 v0)] [(4464, .box false 37 (PV.ar 37 v1)), (4465, .box false 112 (PV.ar 112 v2)), (4466, .box false 37 (PV.ar 37 v3))]) (Jv tau 0 Y5 k)) (fun x0 x1 => k (Ex.exit 14) (Jc Y5 N28 [.ptr 4464 [], .ptr 4465 []] [(4464, .box false 37 (PV.ar 37 x0)), (4465, .box false 37 (PV.ar 37 x1))])) v0 v1 v2 v3 := by kernel_rfl
theorem Jie (f : Nat) (k : Kont) : ∀ (n : Nat) (v0 : Int) (v1 : List PV) (v2 : List PV) (v3 : List PV), Jo tau 0 X7 (fun s k => ev tau F28 0 0 Jcv (Je8 ) s k) n (Jc X7 N28 [.ptr 4464 [], .ptr 4465 [], .ptr 4466 [], .sc (.int .i64 v0)] [(4464, .box false 37 (PV.ar 37 v1)), (4465, .box false 112 (PV.ar 112 v2)), (4466, .box false 37 (PV.ar 37 v3))]) (Jv tau 0 Y5 k) = Z6 f (fun x0 x1 => k (Ex.exit 14) (Jc Y5 N28 [.ptr 4464 [], .ptr 4465 []] [(4464, .box false 37 (PV.ar 37 x0)), (4465, .box false 37 (PV.ar 37 x1))])) n v0 v1 v2 v3 | 0, _, _, _, _ => rfl | n + 1, v0, v1, v2, v3 => (Jns f k n v0 v1 v2 v3).trans (congrArg (fun r => VT f r (fun x0 x1 => k (Ex.exit 14) (Jc Y5 N28 [.ptr 4464 [], .ptr 4465 []] [(4464, .box false 37 (PV.ar 37 x0)), (4465, .box false 37 (PV.ar 37 x1))])) v0 v1 v2 v3) (by funext v0 v1 v2 v3; exact Jie f k n v0 v1 v2 v3))
def Jbh (f : Nat) : List PV → List (Nat × Ent) → Kont → Option Res
  | [.ptr 4464 [], .ptr 4465 [], .ptr 4466 [],
  PV.sc
    (Value.int IntKind.i64
      v0)], [(4464, .box false 37 (PV.ar 37 v1)), (4465, .box false 112 (PV.ar 112 v2)),
  (4466,
    Ent.box false 37
      (PV.ar 37
        v3))], k => Z6 f (fun x0 x1 => k (Ex.exit
  14) (Jc Y5 N28 [.ptr 4464 [], .ptr 4465 []] [(4464, .box false 37 (PV.ar 37 x0)), (4465, .box false 37 (PV.ar 37 x1))])) f v0 v1 v2 v3
  | _, _, _ => none
theorem Jsd (f : Nat) : Jg Jcv Je8 = [] := by kernel_rfl
theorem Jv9 (f : Nat) : (Item.l Jcv X7 N28 (Jbh f)).Ok tau Try.prog 0 := JJ Jq XZ Jr (x := Je8) (nm2 := Y5) (Jp _ _ (by rw [Jsd f]; intro q hq; cases hq)) fun vs hp k res hr => by
  unfold Jbh at hr
  split at hr
  · exact ⟨f, 0, (Jie f _ f _ _ _ _ ).trans hr⟩
  · cases hr
def g28 (f : Nat) (nl : Bool) (fl : Bool) (b : List PV) (k : Res → Option Res) : Option Res := bif Jj (0 + b.length) 1 && true then bif Jj (0 + b.length + 1) 1 && true then ZZ f (fun x0_0 x1_0 x2_0 x3_0 x4_0 x5_0 x6_0 x7_0 => Z0 f (fun x0_1 x1_1 x2_1 x3_1 x4_1 => Z5 f (fun x0_6 x1_6 => Z6 f (fun x0_7 x1_7 => k (Res.mk (.ar 37 x1_7) [] [])) f (0) x0_6 x1_6 ([.sc (.int .u8 0), .sc (.int .u8 0), .sc (.int .u8 0), .sc (.int .u8 0), .sc (.int .u8 0), .sc (.int .u8 0), .sc (.int .u8 0), .sc (.int .u8 0), .sc (.int .u8 0), .sc (.int .u8 0), .sc (.int .u8 0), .sc (.int .u8 0), .sc (.int .u8 0), .sc (.int .u8 0), .sc (.int .u8 0), .sc (.int .u8 0), .sc (.int .u8 0), .sc (.int .u8 0), .sc (.int .u8 0), .sc (.int .u8 0), .sc (.int .u8 0), .sc (.int .u8 0), .sc (.int .u8 0), .sc (.int .u8 0), .sc (.int .u8 0), .sc (.int .u8 0), .sc (.int .u8 0), .sc (.int .u8 0), .sc (.int .u8 0), .sc (.int .u8 0), .sc (.int .u8 0), .sc (.int .u8 0)])) f x0_1 (0) x1_1 x2_1 x3_1 x4_1 ([.sc (.int .u32 0), .sc (.int .u32 0), .sc (.int .u32 0), .sc (.int .u32 0), .sc (.int .u32 0), .sc (.int .u32 0), .sc (.int .u32 0), .sc (.int .u32 0), .sc (.int .u32 0), .sc (.int .u32 0), .sc (.int .u32 0), .sc (.int .u32 0), .sc (.int .u32 0), .sc (.int .u32 0), .sc (.int .u32 0), .sc (.int .u32 0), .sc (.int .u32 0), .sc (.int .u32 0), .sc (.int .u32 0), .sc (.int .u32 0), .sc (.int .u32 0), .sc (.int .u32 0), .sc (.int .u32 0), .sc (.int .u32 0), .sc (.int .u32 0), .sc (.int .u32 0), .sc (.int .u32 0), .sc (.int .u32 0), .sc (.int .u32 0), .sc (.int .u32 0), .sc (.int .u32 0), .sc (.int .u32 0), .sc (.int .u32 0), .sc (.int .u32 0), .sc (.int .u32 0), .sc (.int .u32 0), .sc (.int .u32 0), .sc (.int .u32 0), .sc (.int .u32 0), .sc (.int .u32 0), .sc (.int .u32 0), .sc (.int .u32 0), .sc (.int .u32 0), .sc (.int .u32 0), .sc (.int .u32 0), .sc (.int .u32 0), .sc (.int .u32 0), .sc (.int .u32 0), .sc (.int .u32 0), .sc (.int .u32 0), .sc (.int .u32 0), .sc (.int .u32 0), .sc (.int .u32 0), .sc (.int .u32 0), .sc (.int .u32 0), .sc (.int .u32 0), .sc (.int .u32 0), .sc (.int .u32 0), .sc (.int .u32 0), .sc (.int .u32 0), .sc (.int .u32 0), .sc (.int .u32 0), .sc (.int .u32 0), .sc (.int .u32 0)])) f x3_0 (IntKind.u64.wrap (IntKind.u64.wrap (zi x2_0.length) * 8)) (7) x4_0 x5_0 x6_0 x7_0) f nl fl b (0 + b.length + 1) ([.sc (.int .u8 0), .sc (.int .u8 0), .sc (.int .u8 0), .sc (.int .u8 0), .sc (.int .u8 0), .sc (.int .u8 0), .sc (.int .u8 0), .sc (.int .u8 0), .sc (.int .u8 0), .sc (.int .u8 0), .sc (.int .u8 0), .sc (.int .u8 0), .sc (.int .u8 0), .sc (.int .u8 0), .sc (.int .u8 0), .sc (.int .u8 0), .sc (.int .u8 0), .sc (.int .u8 0), .sc (.int .u8 0), .sc (.int .u8 0), .sc (.int .u8 0), .sc (.int .u8 0), .sc (.int .u8 0), .sc (.int .u8 0), .sc (.int .u8 0), .sc (.int .u8 0), .sc (.int .u8 0), .sc (.int .u8 0), .sc (.int .u8 0), .sc (.int .u8 0), .sc (.int .u8 0), .sc (.int .u8 0)]) ([.sc (.int .u32 1116352408), .sc (.int .u32 1899447441), .sc (.int .u32 3049323471), .sc (.int .u32 3921009573), .sc (.int .u32 961987163), .sc (.int .u32 1508970993), .sc (.int .u32 2453635748), .sc (.int .u32 2870763221), .sc (.int .u32 3624381080), .sc (.int .u32 310598401), .sc (.int .u32 607225278), .sc (.int .u32 1426881987), .sc (.int .u32 1925078388), .sc (.int .u32 2162078206), .sc (.int .u32 2614888103), .sc (.int .u32 3248222580), .sc (.int .u32 3835390401), .sc (.int .u32 4022224774), .sc (.int .u32 264347078), .sc (.int .u32 604807628), .sc (.int .u32 770255983), .sc (.int .u32 1249150122), .sc (.int .u32 1555081692), .sc (.int .u32 1996064986), .sc (.int .u32 2554220882), .sc (.int .u32 2821834349), .sc (.int .u32 2952996808), .sc (.int .u32 3210313671), .sc (.int .u32 3336571891), .sc (.int .u32 3584528711), .sc (.int .u32 113926993), .sc (.int .u32 338241895), .sc (.int .u32 666307205), .sc (.int .u32 773529912), .sc (.int .u32 1294757372), .sc (.int .u32 1396182291), .sc (.int .u32 1695183700), .sc (.int .u32 1986661051), .sc (.int .u32 2177026350), .sc (.int .u32 2456956037), .sc (.int .u32 2730485921), .sc (.int .u32 2820302411), .sc (.int .u32 3259730800), .sc (.int .u32 3345764771), .sc (.int .u32 3516065817), .sc (.int .u32 3600352804), .sc (.int .u32 4094571909), .sc (.int .u32 275423344), .sc (.int .u32 430227734), .sc (.int .u32 506948616), .sc (.int .u32 659060556), .sc (.int .u32 883997877), .sc (.int .u32 958139571), .sc (.int .u32 1322822218), .sc (.int .u32 1537002063), .sc (.int .u32 1747873779), .sc (.int .u32 1955562222), .sc (.int .u32 2024104815), .sc (.int .u32 2227730452), .sc (.int .u32 2361852424), .sc (.int .u32 2428436474), .sc (.int .u32 2756734187), .sc (.int .u32 3204031479), .sc (.int .u32 3329325298)]) ([.sc (.int .u32 1779033703), .sc (.int .u32 3144134277), .sc (.int .u32 1013904242), .sc (.int .u32 2773480762), .sc (.int .u32 1359893119), .sc (.int .u32 2600822924), .sc (.int .u32 528734635), .sc (.int .u32 1541459225)]) (List.take (0 + b.length) ([] ++ b) ++ [.sc (.int .u8 128)]) else none else none
theorem e28 (f : Nat) (nl : Bool) (fl : Bool) (b : List PV) (k : Res → Option Res) : JM tau F28 Try.f28 (Try.f28.body.get!) (Jnk (Jbe f) (Jbf f) (Jbg f) (Jbh f)) [] 0 [.ro 5 nl fl b] [] k = g28 f nl fl b k := by kernel_rfl
theorem JzC (f : Nat) : Jg (Try.f28.body.get!) (Jnk (Jbe f) (Jbf f) (Jbg f) (Jbh f)) = [.l Jco X0 N28 (Jbe f), .l Jcp X1 N28 (Jbf f), .l Jcu X6 N28 (Jbg f), .l Jcv X7 N28 (Jbh f)] := by kernel_rfl
theorem JzD (f : Nat) : ∀ q ∈ Jg (Try.f28.body.get!) (Jnk (Jbe f) (Jbf f) (Jbg f) (Jbh f)), q.Ok tau Try.prog 0 := by
  rw [JzC f]; simp only [List.forall_mem_cons, List.not_mem_nil, false_implies, implies_true, and_true]; exact ⟨Jv2 f, Jv3 f, Jv8 f, Jv9 f⟩
theorem Jwa : Try.prog.funcs[28]? = some Try.f28 := by kernel_rfl
theorem Jwb : Try.f28.body = some (Try.f28.body.get!) := by kernel_rfl
theorem JzE : Enters Try.prog 28 := enters_of Jwa (by kernel_rfl) Jwb
-- FN ref2.Sum
theorem JkV (v : PV) : Jk v [] = v := rfl
theorem WQ {R : List Int} (h : R.length = 8) (j : Nat) (hj : j < 8) : (pu .u32 R).getD j .top = .sc (.int .u32 (R.getD j 0)) := Yz (by omega)
theorem JpF (f : Nat) (a b : Bool) (c x y w : List PV) (k0 : Bool → Bool → List PV → Nat → List PV → List PV → List PV → List PV → Option Res) : ∀ (d n : Nat) (L : List Int), zs L.length = d → d < n → L.length + d ≤ 140737488355200 →
    ZZ f k0 n a b c L.length x y w (pu .u8 L) = k0 a b c (L.length + d) x y w (pu .u8 (L ++ List.replicate d 0))
  | 0, n + 1, L, hd, hn, hL => by
      simp only [ZZ, VM, Ja3]
      refine (JA (by simp [zs] at hd ⊢; omega)).trans ?_
      simp
  | d + 1, n + 1, L, hd, hn, hL => by
      have hlt : d + 1 < 64 := by rw [← hd]; unfold zs; omega
      have c3 : Jj (L.length + 1) 1 = true := by simp [Jj]; omega
      simp only [ZZ, VM, Ja3, c3, Bool.and_true, cond_true, WW]
      refine (Ja (by simp [zs] at hd ⊢; omega)).trans ?_
      rw [List.take_of_length_le (Nat.le_refl _)]
      have := JpF f a b c x y w k0 d n (L ++ [0]) (by simp [zs] at hd ⊢; omega) (by omega) (by simp; omega)
      simp only [List.length_append, List.length_cons, List.length_nil, Nat.zero_add, JO] at this
      refine this.trans ?_
      rw [show L.length + 1 + d = L.length + (d + 1) from by omega, List.replicate_succ]
      simp
def Jnt (N : Int) (i : Nat) : Int := IntKind.u8.wrap (Jw .u64 N (56 - 8 * (i : Int)))
theorem JpG (f : Nat) (N : Int) (x y w : List PV) (k0 : Nat → List PV → List PV → List PV → List PV → Option Res) (L : List Int) (hL : L.length ≤ 140737488355300) : ∀ (d i n : Nat), i + d = 8 → d < n →
    Z0 f k0 n (L.length + i) N (7 - (i : Int)) x y w (pu .u8 (L ++ (List.range i).map (Jnt N))) = k0 (L.length + 8) x y w (pu .u8 (L ++ (List.range 8).map (Jnt N)))
  | 0, i, n + 1, h, hn => by
      obtain rfl : i = 8 := by omega
      simp only [Z0, VN]
      exact JA (by decide)
  | d + 1, i, n + 1, h, hn => by
      have h1 : IntKind.i64.wrap (7 - (i : Int) - 1) = 7 - ((i + 1 : Nat) : Int) := by rw [wrap_i64 (by omega) (by omega)]; omega
      have h8 : IntKind.u64.wrap (7 - (i : Int)) = 7 - (i : Int) := by rw [QT]; omega
      have h9 : IntKind.u64.wrap (8 * (7 - (i : Int))) = 56 - 8 * (i : Int) := by rw [QT]; omega
      have c1 : decide (7 - (i : Int) ≥ 0) = true := by simp; omega
      have c2 : decide (0 ≤ 56 - 8 * (i : Int)) = true := by simp; omega
      have c3 : Jj (L.length + i + 1) 1 = true := by simp [Jj]; omega
      have hlen : (L ++ (List.range i).map (Jnt N)).length = L.length + i := by simp
      simp only [Z0, VN, h1, h8, h9, c1, c2, c3, Bool.and_true, cond_true, WW]
      rw [List.take_of_length_le (by omega)]
      have := JpG f N x y w k0 L hL d (i + 1) n (by omega) (by omega)
      rw [List.range_succ, List.map_append, ← List.append_assoc, JO] at this
      exact this
theorem Jap (P : List Int) (q j : Nat) (hj : j < 64) : ((P.drop (64 * q)).take 64).getD j 0 = P.getD (64 * q + j) 0 := by
  simp [List.getD_eq_getElem?_getD, hj, List.getElem?_drop]
theorem JpH (P : List Int) (q : Nat) (hq : 64 * q + 64 ≤ P.length) (hP : P.length ≤ 140737488356000) (T : List Int) (hT : T.length = 64) (f : Nat) (x y w : List PV) (k0 : Nat → Int → List PV → List PV → List PV → List PV → List PV → Option Res) : ∀ (d i n : Nat), i + d = 16 → d < n →
    Z1 f k0 n P.length ((64 * q : Nat) : Int) (i : Int) x y w (pu .u8 P) (pu .u32 (Qn (JbE ((P.drop (64 * q)).take 64)) T i)) = k0 P.length ((64 * q : Nat) : Int) x y w (pu .u8 P) (pu .u32 (Qn (JbE ((P.drop (64 * q)).take 64)) T 16))
  | 0, i, n + 1, h, hn => by
      obtain rfl : i = 16 := by omega
      simp only [Z1, VO]
      exact JA (by decide)
  | d + 1, i, n + 1, h, hn => by
      have h4 : IntKind.i64.wrap (4 * (i : Int)) = ((4 * i : Nat) : Int) := by rw [wrap_i64 (by omega) (by omega)]; omega
      have h40 : IntKind.i64.wrap (((64 * q : Nat) : Int) + ((4 * i : Nat) : Int)) = ((64 * q + 4 * i : Nat) : Int) := by rw [wrap_i64 (by omega) (by omega)]; omega
      have h41 : IntKind.i64.wrap (((64 * q + 4 * i : Nat) : Int) + 1) = ((64 * q + (4 * i + 1) : Nat) : Int) := by rw [wrap_i64 (by omega) (by omega)]; omega
      have h42 : IntKind.i64.wrap (((64 * q + 4 * i : Nat) : Int) + 2) = ((64 * q + (4 * i + 2) : Nat) : Int) := by rw [wrap_i64 (by omega) (by omega)]; omega
      have h43 : IntKind.i64.wrap (((64 * q + 4 * i : Nat) : Int) + 3) = ((64 * q + (4 * i + 3) : Nat) : Int) := by rw [wrap_i64 (by omega) (by omega)]; omega
      have h5 : IntKind.i64.wrap ((i : Int) + 1) = ((i + 1 : Nat) : Int) := by rw [wrap_i64 (by omega) (by omega)]; omega
      simp only [Z1, VO, h4, h40, h41, h42, h43, h5, Int.toNat_natCast, Nat.zero_add, JkV, zi]
      rw [JU (by omega), JU (by omega), JU (by omega), JU (by omega), Qj (by omega), Qj (by omega), Qj (by omega), Qj (by omega), Wk]
      refine (Ja (by simp; omega)).trans ?_
      refine (Ja (by simp only [Bool.and_true, Bool.and_eq_true, decide_eq_true_eq]; omega)).trans ?_
      refine (Ja rfl).trans ?_
      refine (Ja (by simp only [Bool.and_true, Bool.and_eq_true, decide_eq_true_eq]; omega)).trans ?_
      refine (Ja rfl).trans ?_
      refine (Ja (by simp only [Bool.and_true, Bool.and_eq_true, decide_eq_true_eq]; omega)).trans ?_
      refine (Ja rfl).trans ?_
      refine (Ja (by simp only [Bool.and_true, Bool.and_eq_true, decide_eq_true_eq]; omega)).trans ?_
      refine (Ja rfl).trans ?_
      refine (Ja (by simp only [Bool.and_true, Bool.and_eq_true, decide_eq_true_eq]; omega)).trans ?_
      have := JpH P q hq hP T hT f x y w k0 d (i + 1) n (by omega) (by omega)
      rw [← Qk _ T i (by omega), JbE, Jap P q _ (by omega), Jap P q _ (by omega), Jap P q _ (by omega), Jap P q _ (by omega)] at this
      exact this
def ZK (bs T : List Int) (i : Nat) : List Int := Qh bs i ++ T.drop (16 + i)
theorem Jds (bs T : List Int) (hT : T.length = 64) (i : Nat) (h : i ≤ 48) : (ZK bs T i).length = 64 := by simp [ZK, JR, hT]; omega
theorem Zw (bs T : List Int) (i j : Nat) (h : j < 16 + i) : (ZK bs T i).getD j 0 = (Qh bs i).getD j 0 := by
  simp only [ZK, List.getD_eq_getElem?_getD]
  rw [List.getElem?_append_left (by rw [JR]; exact h)]
theorem Jjk (bs T : List Int) (hT : T.length = 64) (i : Nat) (h : i < 48) (x : Int) : (ZK bs T i).set (i + 16) x = (Qh bs i ++ [x]) ++ T.drop (16 + (i + 1)) := by
  rw [ZK, List.set_append_right _ _ (by rw [JR]; omega), JR, List.drop_eq_getElem_cons (by omega), show i + 16 - (16 + i) = 0 from by omega, List.set_cons_zero]
  simp [Nat.add_assoc]
theorem Jnu (w16 w15 w7 w2 : Int) : ww (ww (ww (sg1 w2 + w7) + sg0 w15) + w16) = JmG w16 w15 w7 w2 := by
  simp only [JmG, ww, Jew]; omega
theorem JpI (bs T : List Int) (hT : T.length = 64) (f : Nat) (l : Nat) (p : Int) (x y w e : List PV) (k0 : Nat → Int → List PV → List PV → List PV → List PV → List PV → Option Res) : ∀ (d i n : Nat), i + d = 48 → d < n →
    Z2 f k0 n l p ((i + 16 : Nat) : Int) x y w e (pu .u32 (ZK bs T i)) = k0 l p x y w e (pu .u32 (J8 bs))
  | 0, i, n + 1, h, hn => by
      obtain rfl : i = 48 := by omega
      simp only [Z2, VP]
      refine (JA (by decide)).trans ?_
      rw [ZK, List.drop_of_length_le (by omega), List.append_nil]; rfl
  | d + 1, i, n + 1, h, hn => by
      have h15 : IntKind.i64.wrap (((i + 16 : Nat) : Int) - 15) = ((i + 1 : Nat) : Int) := by rw [wrap_i64 (by omega) (by omega)]; omega
      have h2 : IntKind.i64.wrap (((i + 16 : Nat) : Int) - 2) = ((i + 14 : Nat) : Int) := by rw [wrap_i64 (by omega) (by omega)]; omega
      have h16 : IntKind.i64.wrap (((i + 16 : Nat) : Int) - 16) = ((i : Nat) : Int) := by rw [wrap_i64 (by omega) (by omega)]; omega
      have h7 : IntKind.i64.wrap (((i + 16 : Nat) : Int) - 7) = ((i + 9 : Nat) : Int) := by rw [wrap_i64 (by omega) (by omega)]; omega
      have h1 : IntKind.i64.wrap (((i + 16 : Nat) : Int) + 1) = ((i + 1 + 16 : Nat) : Int) := by rw [wrap_i64 (by omega) (by omega)]; omega
      have hl := Jds bs T hT i (by omega)
      simp only [Z2, VP, h15, h2, h16, h7, h1, Int.toNat_natCast, zi, Wr]
      rw [JU (by omega), JU (by omega), JU (by omega), JU (by omega), Qj (by omega), Qj (by omega), Qj (by omega), Qj (by omega), Wk]
      refine (Ja (by simp; omega)).trans ?_
      refine (Ja (by simp; omega)).trans ?_
      refine (Ja rfl).trans ?_
      refine (Ja (by simp; omega)).trans ?_
      refine (Ja rfl).trans ?_
      refine (Ja (by simp; omega)).trans ?_
      refine (Ja rfl).trans ?_
      refine (Ja (by simp; omega)).trans ?_
      refine (Ja rfl).trans ?_
      refine (Ja (by simp; omega)).trans ?_
      have := JpI bs T hT f l p x y w e k0 d (i + 1) n (by omega) (by omega)
      rw [Zw bs T i i (by omega), Zw bs T i (i + 1) (by omega), Zw bs T i (i + 9) (by omega), Zw bs T i (i + 14) (by omega), Jjk bs T hT i (by omega)]
      have hn := Jnu ((Qh bs i).getD i 0) ((Qh bs i).getD (i + 1) 0) ((Qh bs i).getD (i + 9) 0) ((Qh bs i).getD (i + 14) 0)
      rw [ZK, Qh, ← hn] at this
      exact this
theorem JpJ (W s : List Int) (hW : W.length = 64) (hs : s.length = 8) (f : Nat) (l : Nat) (p : Int) (x w e : List PV) (k0 : Nat → Int → List PV → List PV → List PV → List PV → List PV → List PV → Option Res) : ∀ (d i n : Nat), i + d = 64 → d < n →
    Z3 f k0 n l p (i : Int) x (pu .u32 kks) w e (pu .u32 W) (pu .u32 (YH W s i)) = k0 l p x (pu .u32 kks) w e (pu .u32 W) (pu .u32 (YH W s 64))
  | 0, i, n + 1, h, hn => by
      obtain rfl : i = 64 := by omega
      simp only [Z3, VQ]
      exact JA (by decide)
  | d + 1, i, n + 1, h, hn => by
      have hl := W3 W s hs i
      have h1 : IntKind.i64.wrap ((i : Int) + 1) = ((i + 1 : Nat) : Int) := by rw [wrap_i64 (by omega) (by omega)]; omega
      have hk : (pu .u32 kks).getD i .top = .sc (.int .u32 (kks.getD i 0)) := Yz (by show i < 64; omega)
      have hw : (pu .u32 W).getD i .top = .sc (.int .u32 (W.getD i 0)) := Yz (by omega)
      have c1 : decide ((i : Int) < 64) = true := by simp; omega
      have c2 : decide (0 ≤ (i : Int)) = true := by simp
      have c3 : decide ((i : Int) < zi 64) = true := by simp; omega
      simp only [Z3, VQ, Wr, Int.toNat_natCast, h1, hk, hw, c1, c2, c3, WQ hl 0 (by omega), WQ hl 1 (by omega), WQ hl 2 (by omega), WQ hl 3 (by omega), WQ hl 4 (by omega), WQ hl 5 (by omega), WQ hl 6 (by omega), WQ hl 7 (by omega), PV.isInt, PV.int, decide_true, Bool.and_true, cond_true]
      exact JpJ W s hW hs f l p x w e k0 d (i + 1) n (by omega) (by omega)
theorem JpK (t s : List Int) (ht : t.length = 8) (hs : s.length = 8) (f : Nat) (l : Nat) (p : Int) (x y e u : List PV) (k0 : Nat → Int → List PV → List PV → List PV → List PV → List PV → Option Res) : ∀ (d i n : Nat), i + d = 8 → d < n →
    Z4 f k0 n l p (i : Int) x y (pu .u32 (Qn (fun j => ww (t.getD j 0 + s.getD j 0)) s i)) e u (pu .u32 t) = k0 l p x y (pu .u32 ((List.range 8).map fun j => ww (t.getD j 0 + s.getD j 0))) e u
  | 0, i, n + 1, h, hn => by
      obtain rfl : i = 8 := by omega
      simp only [Z4, VR]
      refine (JA (by decide)).trans ?_
      have := QK (fun j => ww (t.getD j 0 + s.getD j 0)) s
      rw [hs] at this; rw [this]
  | d + 1, i, n + 1, h, hn => by
      have hl : (Qn (fun j => ww (t.getD j 0 + s.getD j 0)) s i).length = 8 := by rw [XO _ _ _ (by omega), hs]
      have h1 : IntKind.i64.wrap ((i : Int) + 1) = ((i + 1 : Nat) : Int) := by rw [wrap_i64 (by omega) (by omega)]; omega
      have c1 : decide ((i : Int) < 8) = true := by simp; omega
      have c2 : decide (0 ≤ (i : Int)) = true := by simp
      have c3 : decide ((i : Int) < zi 8) = true := by simp; omega
      have g1 : ((i : Int)).toNat = i := by omega
      simp only [Z4, VR, Wr, g1, h1, c1, c2, c3, WQ hl i (by omega), WQ ht i (by omega), Gp _ s i (by omega), PV.isInt, PV.int, decide_true, Bool.and_true, cond_true, Wk]
      have := JpK t s ht hs f l p x y e u k0 d (i + 1) n (by omega) (by omega)
      rw [← Qk _ s i (by omega), Int.add_comm (t.getD i 0)] at this
      exact this
theorem Jwc (s : List Int) (i : Nat) : Yk s (4 * i) = IntKind.u8.wrap (Jw .u32 (s.getD i 0) 24) := by
  rw [Yk, show 4 * i / 4 = i from by omega, show 4 * i % 4 = 0 from by omega]; rfl
theorem Jwd (s : List Int) (i : Nat) : Yk s (4 * i + 1) = IntKind.u8.wrap (Jw .u32 (s.getD i 0) 16) := by
  rw [Yk, show (4 * i + 1) / 4 = i from by omega, show (4 * i + 1) % 4 = 1 from by omega]; rfl
theorem Jwe (s : List Int) (i : Nat) : Yk s (4 * i + 2) = IntKind.u8.wrap (Jw .u32 (s.getD i 0) 8) := by
  rw [Yk, show (4 * i + 2) / 4 = i from by omega, show (4 * i + 2) % 4 = 2 from by omega]; rfl
theorem Jwf (s : List Int) (i : Nat) : Yk s (4 * i + 3) = IntKind.u8.wrap (s.getD i 0) := by
  rw [Yk, show (4 * i + 3) / 4 = i from by omega, show (4 * i + 3) % 4 = 3 from by omega]
  have : Jw .u32 (s.getD i 0) (24 - 8 * ((3 : Nat) : Int)) = s.getD i 0 := by
    have h0 : (24 - 8 * ((3 : Nat) : Int)) = 0 := by decide
    rw [h0]; simp [Jw]
  rw [this]
theorem JpL (s : List Int) (hs : s.length = 8) (f : Nat) (k0 : List PV → List PV → Option Res) (a : List PV) (t : List Int) (ht : t.length = 32) : ∀ (d i n : Nat), i + d = 8 → d < n →
    Z6 f k0 n (i : Int) a (pu .u32 s) (pu .u8 (Qn (Yk s) t (4 * i))) = k0 a (pu .u8 (Jje s))
  | 0, i, n + 1, h, hn => by
      obtain rfl : i = 8 := by omega
      simp only [Z6, VT]
      refine (JA (by decide)).trans ?_
      have := QK (Yk s) t
      rw [ht] at this; rw [show 4 * 8 = 32 from rfl, this]; rfl
  | d + 1, i, n + 1, h, hn => by
      have h1 : IntKind.i64.wrap ((i : Int) + 1) = ((i + 1 : Nat) : Int) := by rw [wrap_i64 (by omega) (by omega)]; omega
      have h4 : IntKind.i64.wrap (4 * (i : Int)) = ((4 * i : Nat) : Int) := by rw [wrap_i64 (by omega) (by omega)]; omega
      have h41 : IntKind.i64.wrap (((4 * i : Nat) : Int) + 1) = ((4 * i + 1 : Nat) : Int) := by rw [wrap_i64 (by omega) (by omega)]; omega
      have h42 : IntKind.i64.wrap (((4 * i : Nat) : Int) + 2) = ((4 * i + 2 : Nat) : Int) := by rw [wrap_i64 (by omega) (by omega)]; omega
      have h43 : IntKind.i64.wrap (((4 * i : Nat) : Int) + 3) = ((4 * i + 3 : Nat) : Int) := by rw [wrap_i64 (by omega) (by omega)]; omega
      have c1 : decide ((i : Int) < 8) = true := by simp; omega
      have c2 : decide (0 ≤ (i : Int)) = true := by simp
      have c3 : decide ((i : Int) < zi 8) = true := by simp; omega
      have b0 : (decide (0 ≤ ((4 * i : Nat) : Int)) && decide (((4 * i : Nat) : Int) < zi 32) && true) = true := by simp; omega
      have b1 : (decide (0 ≤ ((4 * i + 1 : Nat) : Int)) && decide (((4 * i + 1 : Nat) : Int) < zi 32) && true) = true := by simp; omega
      have b2 : (decide (0 ≤ ((4 * i + 2 : Nat) : Int)) && decide (((4 * i + 2 : Nat) : Int) < zi 32) && true) = true := by simp; omega
      have b3 : (decide (0 ≤ ((4 * i + 3 : Nat) : Int)) && decide (((4 * i + 3 : Nat) : Int) < zi 32) && true) = true := by simp; omega
      have g1 : ((i : Int)).toNat = i := by omega
      have g2 : (((4 * i : Nat) : Int)).toNat = 4 * i := by omega
      have g3 : (((4 * i + 1 : Nat) : Int)).toNat = 4 * i + 1 := by omega
      have g4 : (((4 * i + 2 : Nat) : Int)).toNat = 4 * i + 2 := by omega
      have g5 : (((4 * i + 3 : Nat) : Int)).toNat = 4 * i + 3 := by omega
      simp only [Z6, VT, h1, h4, h41, h42, h43, b0, b1, b2, b3, g1, g2, g3, g4, g5, Wr, c1, c2, c3, WQ hs i (by omega), PV.isInt, PV.int, decide_true, Bool.and_true, cond_true, Wk]
      have := JpL s hs f k0 a t ht d (i + 1) n (by omega) (by omega)
      rw [show 4 * (i + 1) = 4 * i + 3 + 1 from by omega, ← Qk (Yk s) t (4 * i + 3) (by omega), ← Qk (Yk s) t (4 * i + 2) (by omega), ← Qk (Yk s) t (4 * i + 1) (by omega), ← Qk (Yk s) t (4 * i) (by omega), Jwc, Jwd, Jwe, Jwf] at this
      exact this
theorem JpM (P : List Int) (m : Nat) (hP : P.length = 64 * m) (hb : P.length ≤ 140737488356000) (f : Nat) (hf : 100 ≤ f) (x : List PV) (k0 : List PV → List PV → Option Res) : ∀ (d i n : Nat) (T : List Int), i + d = m → d < n → T.length = 64 →
    Z5 f k0 n P.length ((64 * i : Nat) : Int) x (pu .u32 kks) (pu .u32 (QX iv P i)) (pu .u8 P) (pu .u32 T) = k0 x (pu .u32 (QX iv P m))
  | 0, i, n + 1, T, h, hn, hT => by
      obtain rfl : i = m := by omega
      simp only [Z5, VS]
      exact JA (by simp [zi]; omega)
  | d + 1, i, n + 1, T, h, hn, hT => by
      have hfl := Wv iv P rfl i
      simp only [Z5, VS]
      refine (Ja (by simp [zi]; omega)).trans ?_
      have e3 := fun kk => JpH P i (by omega) hb T hT f x (pu .u32 kks) (pu .u32 (QX iv P i)) kk 16 0 f (by omega) (by omega)
      have e4 := fun kk => JpI ((P.drop (64 * i)).take 64) T hT f P.length ((64 * i : Nat) : Int) x (pu .u32 kks) (pu .u32 (QX iv P i)) (pu .u8 P) kk 48 0 f (by omega) (by omega)
      have hW : (J8 ((P.drop (64 * i)).take 64)).length = 64 := JR _ 48
      have e5 := fun kk => JpJ (J8 ((P.drop (64 * i)).take 64)) (QX iv P i) hW hfl f P.length ((64 * i : Nat) : Int) x (pu .u32 (QX iv P i)) (pu .u8 P) kk 64 0 f (by omega) (by omega)
      have e6 := fun kk => JpK (YH (J8 ((P.drop (64 * i)).take 64)) (QX iv P i) 64) (QX iv P i) (W3 _ _ hfl 64) hfl f P.length ((64 * i : Nat) : Int) x (pu .u32 kks) (pu .u8 P) (pu .u32 (J8 ((P.drop (64 * i)).take 64))) kk 8 0 f (by omega) (by omega)
      have h0 : Qn (JbE ((P.drop (64 * i)).take 64)) T 16 = ZK ((P.drop (64 * i)).take 64) T 0 := rfl
      rw [Qt] at e6
      simp only [Qt] at e3
      refine (e3 _).trans ?_
      rw [h0]
      refine (e4 _).trans ?_
      refine (e5 _).trans ?_
      refine (e6 _).trans ?_
      have h1 : IntKind.i64.wrap (((64 * i : Nat) : Int) + 64) = ((64 * (i + 1) : Nat) : Int) := by rw [wrap_i64 (by omega) (by omega)]; omega
      rw [h1]
      exact JpM P m hP hb f hf x k0 d (i + 1) n (J8 ((P.drop (64 * i)).take 64)) (by omega) (by omega) hW
theorem Jse (bs : List Int) (hb : bs.length ≤ 140737488355000) (nl fl : Bool) (k : Res → Option Res) : g28 ((Qo bs).length / 64 + 100) nl fl (pu .u8 bs) k = k ⟨.ar 37 (pu .u8 (Jy bs)), [], []⟩ := by
  rw [Jam]
  have hlen : (Qo bs).length = bs.length + 1 + zs (bs.length + 1) + 8 := by simp [Qo, JmI]; omega
  have hz : zs (bs.length + 1) < 64 := by unfold zs; omega
  have h64 : (Qo bs).length = 64 * ((Qo bs).length / 64) := GW bs
  generalize hf : (Qo bs).length / 64 + 100 = f
  refine (Ja (by simp [Jj]; omega)).trans ?_
  refine (Ja (by simp [Jj]; omega)).trans ?_
  have hL : List.take (0 + (pu .u8 bs).length) ([] ++ pu .u8 bs) ++ [PV.sc (Value.int IntKind.u8 128)] = pu .u8 (bs ++ [128]) := by
    rw [List.take_of_length_le (by simp)]; simp
  rw [hL]
  have e0 := fun kk x y w => JpF f nl fl (pu .u8 bs) x y w kk (zs (bs.length + 1)) f (bs ++ [128]) (by simp) (by omega) (by simp; omega)
  simp only [List.length_append, List.length_cons, List.length_nil, Nat.zero_add] at e0
  have hl1 : 0 + (pu .u8 bs).length + 1 = bs.length + 1 := by simp
  rw [hl1]
  refine (e0 _ _ _ _).trans ?_
  have e1 := fun kk x y w => JpG f (IntKind.u64.wrap (IntKind.u64.wrap (zi (pu .u8 bs).length) * 8)) x y w kk (bs ++ [128] ++ List.replicate (zs (bs.length + 1)) 0) (by simp; omega) 8 0 f (by omega) (by omega)
  have hl2 : (bs ++ [128] ++ List.replicate (zs (bs.length + 1)) 0).length = bs.length + 1 + zs (bs.length + 1) := by simp; omega
  rw [hl2] at e1
  simp only [List.range_zero, List.map_nil, List.append_nil, Nat.add_zero] at e1
  refine (e1 _ _ _ _).trans ?_
  have hPd : bs ++ [128] ++ List.replicate (zs (bs.length + 1)) 0 ++ (List.range 8).map (Jnt (IntKind.u64.wrap (IntKind.u64.wrap (zi (pu .u8 bs).length) * 8))) = Qo bs := by
    rw [JI]; rfl
  rw [hPd, ← hlen]
  have e2 := fun kk x => JpM (Qo bs) ((Qo bs).length / 64) h64 (by omega) f (by omega) x kk ((Qo bs).length / 64) 0 f (List.replicate 64 0) (by omega) (by omega) (by simp)
  refine (e2 _ _).trans ?_
  have hfl := Wv iv (Qo bs) rfl ((Qo bs).length / 64)
  have e7 := fun kk a => JpL (QX iv (Qo bs) ((Qo bs).length / 64)) hfl f kk a (List.replicate 32 0) (by simp) 8 0 f (by omega) (by omega)
  simp only [Nat.mul_zero, Qt] at e7
  exact e7 _ _
def JgA : List PV → List Ent → (Res → Option Res) → Option Res
  | [.ro 5 nl fl b], [], k => bif Je .u8 b && decide (b.length ≤ 140737488355000) then k ⟨.ar 37 (pu .u8 (Jy (Jf b))), [], []⟩ else none
  | _, _, _ => none
def Jwg : Sig := { own := [], run := JgA }
theorem Jwh : Jh tau Try.prog 28 Jwg := Jf6 Jq XZ Jr Jwa Jwb (fun n => Jnk (Jbe n) (Jbf n) (Jbg n) (Jbh n)) [] 0 [] JgA (fun n => JzD n) fun xs es k res hr => by
  unfold JgA at hr
  split at hr
  · rename_i nl fl l
    obtain ⟨hc, hr⟩ := JH hr
    simp only [Bool.and_eq_true, decide_eq_true_eq] at hc
    refine ⟨rfl, (Qo (Jf l)).length / 64 + 100, 0, (e28 _ _ _ _ _).trans ?_⟩
    have he := Qb hc.1
    have := Jse (Jf l) (by simpa using hc.2) nl fl k
    rw [← he] at this
    rw [this]; exact hr
  · cases hr
noncomputable abbrev z36 : List PV := [PV.sc (.int .u8 0), PV.sc (.int .u8 0), PV.sc (.int .u8 0), PV.sc (.int .u8 0), PV.sc (.int .u8 0), PV.sc (.int .u8 0), PV.sc (.int .u8 0), PV.sc (.int .u8 0), PV.sc (.int .u8 0), PV.sc (.int .u8 0), PV.sc (.int .u8 0), PV.sc (.int .u8 0), PV.sc (.int .u8 0), PV.sc (.int .u8 0), PV.sc (.int .u8 0), PV.sc (.int .u8 0), PV.sc (.int .u8 0), PV.sc (.int .u8 0), PV.sc (.int .u8 0), PV.sc (.int .u8 0), PV.sc (.int .u8 0), PV.sc (.int .u8 0), PV.sc (.int .u8 0), PV.sc (.int .u8 0), PV.sc (.int .u8 0), PV.sc (.int .u8 0), PV.sc (.int .u8 0), PV.sc (.int .u8 0), PV.sc (.int .u8 0), PV.sc (.int .u8 0), PV.sc (.int .u8 0), PV.sc (.int .u8 0), PV.sc (.int .u8 0), PV.sc (.int .u8 0), PV.sc (.int .u8 0), PV.sc (.int .u8 0), PV.sc (.int .u8 0), PV.sc (.int .u8 0), PV.sc (.int .u8 0), PV.sc (.int .u8 0), PV.sc (.int .u8 0), PV.sc (.int .u8 0), PV.sc (.int .u8 0), PV.sc (.int .u8 0), PV.sc (.int .u8 0), PV.sc (.int .u8 0), PV.sc (.int .u8 0), PV.sc (.int .u8 0), PV.sc (.int .u8 0), PV.sc (.int .u8 0), PV.sc (.int .u8 0), PV.sc (.int .u8 0), PV.sc (.int .u8 0), PV.sc (.int .u8 0), PV.sc (.int .u8 0), PV.sc (.int .u8 0), PV.sc (.int .u8 0), PV.sc (.int .u8 0), PV.sc (.int .u8 0), PV.sc (.int .u8 0), PV.sc (.int .u8 0), PV.sc (.int .u8 0), PV.sc (.int .u8 0), PV.sc (.int .u8 0)]
def N36 : Nat := 53
noncomputable def F36 : Fns := JG 28 Jwg (F0)
theorem JkW : Jx tau Try.prog F36 := (JE).add Jwh JzE
noncomputable def Jcw : Code := Qs (Try.f36.body.get!) [1, 1, 1, 1, 0, 1, 0, 0]
def X8 : Nm := [(1, .any), (4, .any), (5, .any), (7, .any), (8, .any), (9, .any)]
def Y6 : Nm := [(1, .any), (4, .any), (7, .any), (8, .any)]
def Je9 : An := (.seq (.seq .leaf (.cond .leaf .leaf)) (.seq (.block none .leaf) .leaf))
def Jnv (r0 : QZ) : An := (.seq .leaf (.seq .leaf (.seq (.seq .leaf (.cond (.seq .leaf .leaf) .leaf)) (.seq .leaf (.seq (.seq .leaf (.block none (.sum X8 N36 r0))) (.seq .leaf (.seq .leaf .leaf)))))))
noncomputable def VU (f : Nat) (rc : Bool → Bool → List PV → Int → List PV → List PV → List PV → List PV → Option Res) (k0 : Bool → Bool → List PV → List PV → List PV → List PV → Option Res) (v0 : Bool) (v1 : Bool) (v2 : List PV) (v3 : Int) (v4 : List PV) (v5 : List PV) (v6 : List PV) (v7 : List PV) : Option Res := bif decide (v3 < 64) then bif decide (0 ≤ v3) && decide (v3 < zi 64) && true then bif PV.isInt IntKind.u8 (Jk (v5.getD (0 + v3.toNat) PV.top) []) && true then bif decide (0 ≤ v3) && decide (v3 < zi 64) && true then bif PV.isInt IntKind.u8 (Jk (v5.getD (0 + v3.toNat) PV.top) []) && true then bif decide (0 ≤ v3) && decide (v3 < zi 64) && true then bif decide (0 ≤ v3) && decide (v3 < zi 64) && true then rc v0 v1 v2 (IntKind.i64.wrap (v3 + 1)) v4 v5 (v6.set (0 + v3.toNat) (.sc (.int .u8 (JC BinOp.xor IntKind.u8 (Jk (v5.getD (0 + v3.toNat) PV.top) []).int 54)))) (v7.set (0 + v3.toNat) (.sc (.int .u8 (JC BinOp.xor IntKind.u8 (Jk (v5.getD (0 + v3.toNat) PV.top) []).int 92)))) else none else none else none else none else none else none else k0 v0 v1 v2 v4 v6 v7
noncomputable def WR (f : Nat) (k0 : Bool → Bool → List PV → List PV → List PV → List PV → Option Res) : Nat → Bool → Bool → List PV → Int → List PV → List PV → List PV → List PV → Option Res
  | 0, _, _, _, _, _, _, _, _ => none
  | n + 1, v0, v1, v2, v3, v4, v5, v6, v7 => VU f (WR f k0 n) k0 v0 v1 v2 v3 v4 v5 v6 v7
theorem Jnw (f : Nat) (k : Kont) (n : Nat) (v0 : Bool) (v1 : Bool) (v2 : List PV) (v3 : Int) (v4 : List PV) (v5 : List PV) (v6 : List PV) (v7 : List PV) : Jo tau 0 X8 (fun s k => ev tau F36 0 0 Jcw (Je9 ) s k) (n + 1) (Jc X8 N36 [.ro 5 v0 v1 v2, .ptr 864 [], .ow 5 865 [] 0 64 (some 64), .ow 5 866 [] 0 64 (some 64), .ow 5 867 [] 0 64 (some 64), .sc (.int .i64 v3)] [(864, .box false 37 (PV.ar 37 v4)), (865, .vec false 5 false v5), (866, .vec false 5 false v6), (867, .vec false 5 false v7)]) (Jv tau 0 Y6 k) = VU f (fun v0 v1 v2 v3 v4 v5 v6 v7 => Jo tau 0 X8 (fun s k => ev tau F36 0 0 Jcw (Je9 ) s k) n (Jc X8 N36 [.ro 5 v0 v1 v2, .ptr 864 [], .ow 5 865 [] 0 64 (some 64), .ow 5 866 [] 0 64 (some 64), .ow 5 867 [] 0 64 (some 64), .sc (.int .i64 v3)] [(864, .box false 37 (PV.ar 37 v4)), (865, .vec false 5 false v5), (866, .vec false 5 false v6), (867, .vec false 5 false v7)]) (Jv tau 0 Y6 k)) (fun x0 x1 x2 x3 x4 x5 => k (Ex.exit 0) (Jc Y6 N36 [.ro 5 x0 x1 x2, .ptr 864 [], .ow 5 865 [] 0 64 (some 64), .ow 5 866 [] 0 64 (some 64)] [(864, .box false 37 (PV.ar 37 x3)), (865, .vec false 5 false x4), (866, .vec false 5 false x5)])) v0 v1 v2 v3 v4 v5 v6 v7 := by kernel_rfl
theorem Jif (f : Nat) (k : Kont) : ∀ (n : Nat) (v0 : Bool) (v1 : Bool) (v2 : List PV) (v3 : Int) (v4 : List PV) (v5 : List PV) (v6 : List PV) (v7 : List PV), Jo tau 0 X8 (fun s k => ev tau F36 0 0 Jcw (Je9 ) s k) n (Jc X8 N36 [.ro 5 v0 v1 v2, .ptr 864 [], .ow 5 865 [] 0 64 (some 64), .ow 5 866 [] 0 64 (some 64), .ow 5 867 [] 0 64 (some 64), .sc (.int .i64 v3)] [(864, .box false 37 (PV.ar 37 v4)), (865, .vec false 5 false v5), (866, .vec false 5 false v6), (867, .vec false 5 false v7)]) (Jv tau 0 Y6 k) = WR f (fun x0 x1 x2 x3 x4 x5 => k (Ex.exit 0) (Jc Y6 N36 [.ro 5 x0 x1 x2, .ptr 864 [], .ow 5 865 [] 0 64 (some 64), .ow 5 866 [] 0 64 (some 64)] [(864, .box false 37 (PV.ar 37 x3)), (865, .vec false 5 false x4), (866, .vec false 5 false x5)])) n v0 v1 v2 v3 v4 v5 v6 v7 | 0, _, _, _, _, _, _, _, _ => rfl | n + 1, v0, v1, v2, v3, v4, v5, v6, v7 => (Jnw f k n v0 v1 v2 v3 v4 v5 v6 v7).trans (congrArg (fun r => VU f r (fun x0 x1 x2 x3 x4 x5 => k (Ex.exit 0) (Jc Y6 N36 [.ro 5 x0 x1 x2, .ptr 864 [], .ow 5 865 [] 0 64 (some 64), .ow 5 866 [] 0 64 (some 64)] [(864, .box false 37 (PV.ar 37 x3)), (865, .vec false 5 false x4), (866, .vec false 5 false x5)])) v0 v1 v2 v3 v4 v5 v6 v7) (by funext v0 v1 v2 v3 v4 v5 v6 v7; exact Jif f k n v0 v1 v2 v3 v4 v5 v6 v7))
noncomputable def Jbi (f : Nat) : List PV → List (Nat × Ent) → Kont → Option Res
  | [.ro 5 v0 v1 v2, .ptr 864 [], .ow 5 865 [] 0 64 (some 64), .ow 5 866 [] 0 64 (some 64), .ow 5 867 [] 0 64 (some 64),
  PV.sc
    (Value.int IntKind.i64
      v3)], [(864, .box false 37 (PV.ar 37 v4)), (865, .vec false 5 false v5), (866, .vec false 5 false v6),
  (867,
    Ent.vec false 5 false
      v7)], k => WR f (fun x0 x1 x2 x3 x4 x5 => k (Ex.exit
  0) (Jc Y6 N36 [.ro 5 x0 x1 x2, .ptr 864 [], .ow 5 865 [] 0 64 (some 64),
  PV.ow 5 866 [] 0 64 (some 64)] [(864, .box false 37 (PV.ar 37 x3)), (865, .vec false 5 false x4), (866, .vec false 5 false x5)])) f v0 v1 v2 v3 v4 v5 v6 v7
  | _, _, _ => none
theorem Jsf (f : Nat) : Jg Jcw Je9 = [] := by kernel_rfl
theorem Jwi (f : Nat) : (Item.l Jcw X8 N36 (Jbi f)).Ok tau Try.prog 0 := JJ Jq JkW Jr (x := Je9) (nm2 := Y6) (Jp _ _ (by rw [Jsf f]; intro q hq; cases hq)) fun vs hp k res hr => by
  unfold Jbi at hr
  split at hr
  · exact ⟨f, 0, (Jif f _ f _ _ _ _ _ _ _ _ ).trans hr⟩
  · cases hr
noncomputable def g36 (f : Nat) (key_z : Bool) (key_f : Bool) (key : List PV) (text_z : Bool) (text_f : Bool) (text : List PV) (k : Res → Option Res) : Option Res := bif decide (zi key.length > 64) then bif Je IntKind.u8 key && decide (key.length ≤ 140737488355000) then WR f (fun x0_0 x1_0 x2_0 x3_0 x4_0 x5_0 => bif Jj (64 + x2_0.length) 1 && true then bif Je IntKind.u8 (List.take (64 + x2_0.length) (List.take 64 x4_0 ++ x2_0)) && decide ((List.take (64 + x2_0.length) (List.take 64 x4_0 ++ x2_0)).length ≤ 140737488355000) then bif Jj (64 + (List.take 32 (pu IntKind.u8 (Jy (Jf (List.take (64 + x2_0.length) (List.take 64 x4_0 ++ x2_0)))))).length) 1 && true then bif Je IntKind.u8 (List.take (64 + (List.take 32 (pu IntKind.u8 (Jy (Jf (List.take (64 + x2_0.length) (List.take 64 x4_0 ++ x2_0)))))).length) (List.take 64 x5_0 ++ List.take 32 (pu IntKind.u8 (Jy (Jf (List.take (64 + x2_0.length) (List.take 64 x4_0 ++ x2_0))))))) && decide ((List.take (64 + (List.take 32 (pu IntKind.u8 (Jy (Jf (List.take (64 + x2_0.length) (List.take 64 x4_0 ++ x2_0)))))).length) (List.take 64 x5_0 ++ List.take 32 (pu IntKind.u8 (Jy (Jf (List.take (64 + x2_0.length) (List.take 64 x4_0 ++ x2_0))))))).length ≤ 140737488355000) then k (Res.mk (.ar 37 (pu IntKind.u8 (Jy (Jf (List.take (64 + (List.take 32 (pu IntKind.u8 (Jy (Jf (List.take (64 + x2_0.length) (List.take 64 x4_0 ++ x2_0)))))).length) (List.take 64 x5_0 ++ List.take 32 (pu IntKind.u8 (Jy (Jf (List.take (64 + x2_0.length) (List.take 64 x4_0 ++ x2_0))))))))))) [] []) else none else none else none else none) f text_z text_f text (0) ([.sc (.int .u8 0), .sc (.int .u8 0), .sc (.int .u8 0), .sc (.int .u8 0), .sc (.int .u8 0), .sc (.int .u8 0), .sc (.int .u8 0), .sc (.int .u8 0), .sc (.int .u8 0), .sc (.int .u8 0), .sc (.int .u8 0), .sc (.int .u8 0), .sc (.int .u8 0), .sc (.int .u8 0), .sc (.int .u8 0), .sc (.int .u8 0), .sc (.int .u8 0), .sc (.int .u8 0), .sc (.int .u8 0), .sc (.int .u8 0), .sc (.int .u8 0), .sc (.int .u8 0), .sc (.int .u8 0), .sc (.int .u8 0), .sc (.int .u8 0), .sc (.int .u8 0), .sc (.int .u8 0), .sc (.int .u8 0), .sc (.int .u8 0), .sc (.int .u8 0), .sc (.int .u8 0), .sc (.int .u8 0)]) (List.take 64 (List.take 32 (pu IntKind.u8 (Jy (Jf key)))) ++ List.drop (0 + min (List.take 32 (pu IntKind.u8 (Jy (Jf key)))).length 64) z36) (z36) (z36) else none else WR f (fun x0_1 x1_1 x2_1 x3_1 x4_1 x5_1 => bif Jj (64 + x2_1.length) 1 && true then bif Je IntKind.u8 (List.take (64 + x2_1.length) (List.take 64 x4_1 ++ x2_1)) && decide ((List.take (64 + x2_1.length) (List.take 64 x4_1 ++ x2_1)).length ≤ 140737488355000) then bif Jj (64 + (List.take 32 (pu IntKind.u8 (Jy (Jf (List.take (64 + x2_1.length) (List.take 64 x4_1 ++ x2_1)))))).length) 1 && true then bif Je IntKind.u8 (List.take (64 + (List.take 32 (pu IntKind.u8 (Jy (Jf (List.take (64 + x2_1.length) (List.take 64 x4_1 ++ x2_1)))))).length) (List.take 64 x5_1 ++ List.take 32 (pu IntKind.u8 (Jy (Jf (List.take (64 + x2_1.length) (List.take 64 x4_1 ++ x2_1))))))) && decide ((List.take (64 + (List.take 32 (pu IntKind.u8 (Jy (Jf (List.take (64 + x2_1.length) (List.take 64 x4_1 ++ x2_1)))))).length) (List.take 64 x5_1 ++ List.take 32 (pu IntKind.u8 (Jy (Jf (List.take (64 + x2_1.length) (List.take 64 x4_1 ++ x2_1))))))).length ≤ 140737488355000) then k (Res.mk (.ar 37 (pu IntKind.u8 (Jy (Jf (List.take (64 + (List.take 32 (pu IntKind.u8 (Jy (Jf (List.take (64 + x2_1.length) (List.take 64 x4_1 ++ x2_1)))))).length) (List.take 64 x5_1 ++ List.take 32 (pu IntKind.u8 (Jy (Jf (List.take (64 + x2_1.length) (List.take 64 x4_1 ++ x2_1))))))))))) [] []) else none else none else none else none) f text_z text_f text (0) ([.sc (.int .u8 0), .sc (.int .u8 0), .sc (.int .u8 0), .sc (.int .u8 0), .sc (.int .u8 0), .sc (.int .u8 0), .sc (.int .u8 0), .sc (.int .u8 0), .sc (.int .u8 0), .sc (.int .u8 0), .sc (.int .u8 0), .sc (.int .u8 0), .sc (.int .u8 0), .sc (.int .u8 0), .sc (.int .u8 0), .sc (.int .u8 0), .sc (.int .u8 0), .sc (.int .u8 0), .sc (.int .u8 0), .sc (.int .u8 0), .sc (.int .u8 0), .sc (.int .u8 0), .sc (.int .u8 0), .sc (.int .u8 0), .sc (.int .u8 0), .sc (.int .u8 0), .sc (.int .u8 0), .sc (.int .u8 0), .sc (.int .u8 0), .sc (.int .u8 0), .sc (.int .u8 0), .sc (.int .u8 0)]) (List.take 64 key ++ List.drop (0 + min key.length 64) z36) (z36) (z36)
theorem e36 (f : Nat) (key_z : Bool) (key_f : Bool) (key : List PV) (text_z : Bool) (text_f : Bool) (text : List PV) (k : Res → Option Res) : JM tau F36 Try.f36 (Try.f36.body.get!) (Jnv (Jbi f)) [.ro] 0 [.ro 5 key_z key_f key, .ro 5 text_z text_f text] [] k = g36 f key_z key_f key text_z text_f text k := by kernel_rfl
theorem JzF (f : Nat) : Jg (Try.f36.body.get!) (Jnv (Jbi f)) = [.l Jcw X8 N36 (Jbi f)] := by kernel_rfl
theorem JzG (f : Nat) : ∀ q ∈ Jg (Try.f36.body.get!) (Jnv (Jbi f)), q.Ok tau Try.prog 0 := by
  rw [JzF f]; simp only [List.forall_mem_cons, List.not_mem_nil, false_implies, implies_true, and_true]; exact Jwi f
theorem Jwj : Try.prog.funcs[36]? = some Try.f36 := by kernel_rfl
theorem Jwk : Try.f36.body = some (Try.f36.body.get!) := by kernel_rfl
theorem JzH : Enters Try.prog 36 := enters_of Jwj (by kernel_rfl) Jwk
-- FN ref3.Mac
theorem Jcx (K : List Int) (hK : K.length = 64) (x : Int) : (List.range 64).map (fun j => JC .xor .u8 (K.getD j 0) x) = JQ K x := by
  rw [← JeX K hK x]
  apply List.map_congr_left
  intro j _
  exact ZJ _ _ _
theorem JpN (K : List Int) (hK : K.length = 64) (f : Nat) (k0 : Bool → Bool → List PV → List PV → List PV → List PV → Option Res) (tz tf : Bool) (text h : List PV) : ∀ (d i n : Nat), i + d = 64 → d < n →
    WR f k0 n tz tf text (i : Int) h (pu .u8 K) (pu .u8 (Qn (fun j => JC .xor .u8 (K.getD j 0) 54) (List.replicate 64 0) i)) (pu .u8 (Qn (fun j => JC .xor .u8 (K.getD j 0) 92) (List.replicate 64 0) i)) = k0 tz tf text h (pu .u8 (JQ K 54)) (pu .u8 (JQ K 92))
  | 0, i, n + 1, hh, hn => by
      obtain rfl : i = 64 := by omega
      simp only [WR, VU]
      refine (JA (by decide)).trans ?_
      have h1 := QK (fun j => JC .xor .u8 (K.getD j 0) 54) (List.replicate 64 0)
      have h2 := QK (fun j => JC .xor .u8 (K.getD j 0) 92) (List.replicate 64 0)
      rw [List.length_replicate] at h1 h2
      rw [h1, h2, Jcx K hK, Jcx K hK]
  | d + 1, i, n + 1, hh, hn => by
      have g1 : ((i : Int)).toNat = i := by omega
      have h1 : IntKind.i64.wrap ((i : Int) + 1) = ((i + 1 : Nat) : Int) := by rw [wrap_i64 (by omega) (by omega)]; omega
      have c0 : (decide (0 ≤ (i : Int)) && decide ((i : Int) < zi 64) && true) = true := by simp; omega
      simp only [WR, VU, g1, h1, Nat.zero_add, Jk]
      rw [JU (by omega), Qj (by omega), Wk, Wk]
      refine (Ja (by simp; omega)).trans ((Ja c0).trans ((Ja rfl).trans ((Ja c0).trans ((Ja rfl).trans ((Ja c0).trans ((Ja c0).trans ?_))))))
      have := JpN K hK f k0 tz tf text h d (i + 1) n (by omega) (by omega)
      rw [← Qk _ _ i (by simp; omega), ← Qk _ _ i (by simp; omega)] at this
      exact this
def Zx (a b text : List PV) (k : Res → Option Res) : Option Res :=
  bif Jj (64 + text.length) 1 && true then
    bif Je .u8 (List.take (64 + text.length) (List.take 64 a ++ text)) && decide ((List.take (64 + text.length) (List.take 64 a ++ text)).length ≤ 140737488355000) then
      bif Jj (64 + (List.take 32 (pu .u8 (Jy (Jf (List.take (64 + text.length) (List.take 64 a ++ text)))))).length) 1 && true then
        bif Je .u8 (List.take (64 + (List.take 32 (pu .u8 (Jy (Jf (List.take (64 + text.length) (List.take 64 a ++ text)))))).length) (List.take 64 b ++ List.take 32 (pu .u8 (Jy (Jf (List.take (64 + text.length) (List.take 64 a ++ text)))))))
            && decide ((List.take (64 + (List.take 32 (pu .u8 (Jy (Jf (List.take (64 + text.length) (List.take 64 a ++ text)))))).length) (List.take 64 b ++ List.take 32 (pu .u8 (Jy (Jf (List.take (64 + text.length) (List.take 64 a ++ text))))))).length ≤ 140737488355000) then
          k ⟨.ar 37 (pu .u8 (Jy (Jf (List.take (64 + (List.take 32 (pu .u8 (Jy (Jf (List.take (64 + text.length) (List.take 64 a ++ text)))))).length) (List.take 64 b ++ List.take 32 (pu .u8 (Jy (Jf (List.take (64 + text.length) (List.take 64 a ++ text)))))))))), [], []⟩
        else none
      else none
    else none
  else none
theorem JkX (f : Nat) (kz kf : Bool) (key : List PV) (tz tf : Bool) (text : List PV) (k : Res → Option Res) : g36 f kz kf key tz tf text k =
    (bif decide (zi key.length > 64) then
      bif Je .u8 key && decide (key.length ≤ 140737488355000) then
        WR f (fun _ _ t _ a b => Zx a b t k) f tz tf text 0 (pu .u8 (List.replicate 32 0)) (kbG (List.take 32 (pu .u8 (Jy (Jf key))))) (pu .u8 (List.replicate 64 0)) (pu .u8 (List.replicate 64 0))
      else none
    else WR f (fun _ _ t _ a b => Zx a b t k) f tz tf text 0 (pu .u8 (List.replicate 32 0)) (kbG key) (pu .u8 (List.replicate 64 0)) (pu .u8 (List.replicate 64 0))) := by kernel_rfl
theorem JgB (K T : List Int) (hK : K.length = 64) (hT : T.length ≤ 1000000000) (k : Res → Option Res) :
    Zx (pu .u8 (JQ K 54)) (pu .u8 (JQ K 92)) (pu .u8 T) k = k ⟨.ar 37 (pu .u8 (Jy (JQ K 92 ++ Jy (JQ K 54 ++ T)))), [], []⟩ := by
  have e1 : List.take (64 + (pu .u8 T).length) (List.take 64 (pu .u8 (JQ K 54)) ++ pu .u8 T) = pu .u8 (JQ K 54 ++ T) := by
    rw [List.take_of_length_le (i := 64) (by simp [hK]), List.take_of_length_le (by simp [hK]), ← JO]
  have e2 : ∀ l : List Int, List.take 32 (pu .u8 (Jy l)) = pu .u8 (Jy l) := fun l => List.take_of_length_le (by simp [J2])
  have e3 : ∀ l : List Int, List.take (64 + (pu .u8 (Jy l)).length) (List.take 64 (pu .u8 (JQ K 92)) ++ pu .u8 (Jy l)) = pu .u8 (JQ K 92 ++ Jy l) := fun l => by
    rw [List.take_of_length_le (i := 64) (by simp [hK]), List.take_of_length_le (by simp [hK]), ← JO]
  unfold Zx
  rw [e1, e2, e3, Ja (by simp [Jj]; omega), Ja (by rw [JV, JI]; simp [hK]; omega), Ja (by simp [Jj, J2]), Ja (by rw [JV, JI]; simp [hK, J2])]
  simp only [Qv]
noncomputable def JgC : List PV → List Ent → (Res → Option Res) → Option Res
  | [.ro 5 kz kf key, .ro 5 tz tf text], [], k =>
    bif (Je .u8 key && decide (key.length ≤ 1000000000)) && (Je .u8 text && decide (text.length ≤ 1000000000)) then
      k ⟨.ar 37 (pu .u8 (Qw (Jf key) (Jf text))), [], []⟩ else none
  | _, _, _ => none
noncomputable def Jwl : Sig := { own := [], run := JgC }
theorem Jsg (kz kf : Bool) (key : List PV) (tz tf : Bool) (text : List PV) (k : Res → Option Res) (a1 : Je .u8 key = true) (a2 : key.length ≤ 1000000000) (h3 : Je .u8 text = true) (h4 : text.length ≤ 1000000000) :
    g36 70 kz kf key tz tf text k = k ⟨.ar 37 (pu .u8 (Qw (Jf key) (Jf text))), [], []⟩ := by
  rw [JkX, Jao, JeY]
  have hi := Qb a1
  have ht := Qb h3
  have hL : ∀ K : List Int, K.length = 64 → WR 70 (fun _ _ t _ a b => Zx a b t k) 70 tz tf text 0 (pu .u8 (List.replicate 32 0)) (pu .u8 K) (pu .u8 (List.replicate 64 0)) (pu .u8 (List.replicate 64 0)) = k ⟨.ar 37 (pu .u8 (Jy (JQ K 92 ++ Jy (JQ K 54 ++ Jf text)))), [], []⟩ := by
    intro K hK
    have := JpN K hK 70 (fun _ _ t _ a b => Zx a b t k) tz tf text (pu .u8 (List.replicate 32 0)) 64 0 70 (by omega) (by omega)
    rw [Qt, Qt] at this
    refine this.trans ?_
    have hm := JgB K (Jf text) hK (by simpa using h4) k
    rw [← ht] at hm
    exact hm
  by_cases hc : key.length > 64
  · rw [Ja (by simp [zi]; omega), Ja (by simp [a1]; omega), List.take_of_length_le (by simp [J2]), Jdj _ (by rw [J2]; omega),
      hL _ (by rw [← W6 (Jf key), VF, if_pos (by simpa using hc)]), VF, if_pos (by simpa using hc)]
  · have hl : (Jf key).length ≤ 64 := by simp; omega
    rw [JA (by simp [zi]; omega), hi, Jdj _ hl, Qv, hL _ (by rw [← W6 (Jf key), VF, if_neg (by omega)]), VF, if_neg (by omega)]
theorem Jwm : Jh tau Try.prog 36 Jwl := Jh.mk' fun xs es k res hl hr => by
  change JgC xs es k = some res at hr
  unfold JgC at hr
  split at hr
  · rename_i kz kf key tz tf text
    obtain ⟨hc, hr⟩ := JH hr
    simp only [Bool.and_eq_true, decide_eq_true_eq] at hc
    obtain ⟨⟨a1, a2⟩, h3, h4⟩ := hc
    exact Ql Jq JkW Jr Jwj Jwk (Jnv (Jbi 70)) [.ro] 0 0 (JzG 70) hl rfl ((e36 70 kz kf key tz tf text k).trans ((Jsg kz kf key tz tf text k a1 a2 h3 h4).trans hr))
  · cases hr
noncomputable def Jwn : Fns := JG 70 JmU (F0)
theorem Jnx : Jx tau Try.prog Jwn := (JE).add Jko Jrh
def Jig : An := (.seq .leaf (.seq .leaf .leaf))
noncomputable def Jsh (f : Nat) (b_z : Bool) (b_f : Bool) (b : List PV) (n : Int) (k : Res → Option Res) : Option Res := bif decide ((Jl [.ro 5 b_z b_f b, .ro 5 false false [.sc (.int .u8 (IntKind.u8.wrap n))]]).length ≤ 140737488355328) && true then k (Res.mk (.ow 5 16 [] 0 (Jl [.ro 5 b_z b_f b, .ro 5 false false [.sc (.int .u8 (IntKind.u8.wrap n))]]).length none) [] [.vec false 5 (Jl [.ro 5 b_z b_f b, .ro 5 false false [.sc (.int .u8 (IntKind.u8.wrap n))]]).isEmpty (Jl [.ro 5 b_z b_f b, .ro 5 false false [.sc (.int .u8 (IntKind.u8.wrap n))]])]) else none
theorem JzI (f : Nat) (b_z : Bool) (b_f : Bool) (b : List PV) (n : Int) (k : Res → Option Res) : JM tau Jwn Try.f96 (Try.f96.body.get!) Jig [] 0 [.ro 5 b_z b_f b, .sc (.int .i64 n)] [] k = Jsh f b_z b_f b n k := by kernel_rfl
theorem Jwo (f : Nat) : Jg (Try.f96.body.get!) Jig = [] := by kernel_rfl
theorem Jwp (f : Nat) : ∀ q ∈ Jg (Try.f96.body.get!) Jig, q.Ok tau Try.prog 0 := by
  rw [Jwo f]; intro q hq; cases hq
theorem Jwq : Try.prog.funcs[96]? = some Try.f96 := by kernel_rfl
theorem Jwr : Try.f96.body = some (Try.f96.body.get!) := by kernel_rfl
noncomputable def Jws : Fns := JG 70 JmU (F0)
theorem Jny : Jx tau Try.prog Jws := (JE).add Jko Jrh
def Jih : An := (.seq .leaf (.seq .leaf (.seq .leaf .leaf)))
noncomputable def Jsi (f : Nat) (b_z : Bool) (b_f : Bool) (b : List PV) (s : ByteArray) (k : Res → Option Res) : Option Res := bif decide (0 ≤ J0 (zi s.size) 65535) && true && decide ((J0 (zi s.size) 65535).toNat ≤ s.size) && true then bif Jj (s.extract 0 (J0 (zi s.size) 65535).toNat).size 1 && true then bif decide ((Jl [.ro 5 b_z b_f b, .ro 5 false false [.sc (.int .u8 (IntKind.u8.wrap (zi (s.extract 0 (J0 (zi s.size) 65535).toNat).size))), .sc (.int .u8 (IntKind.u8.wrap (Jw IntKind.i64 (zi (s.extract 0 (J0 (zi s.size) 65535).toNat).size) 8)))], .ro 5 false false (List.take (s.extract 0 (J0 (zi s.size) 65535).toNat).size (Jm (s.extract 0 (J0 (zi s.size) 65535).toNat)))]).length ≤ 140737488355328) && true then k (Res.mk (.ow 5 16 [] 0 (Jl [.ro 5 b_z b_f b, .ro 5 false false [.sc (.int .u8 (IntKind.u8.wrap (zi (s.extract 0 (J0 (zi s.size) 65535).toNat).size))), .sc (.int .u8 (IntKind.u8.wrap (Jw IntKind.i64 (zi (s.extract 0 (J0 (zi s.size) 65535).toNat).size) 8)))], .ro 5 false false (List.take (s.extract 0 (J0 (zi s.size) 65535).toNat).size (Jm (s.extract 0 (J0 (zi s.size) 65535).toNat)))]).length none) [] [.vec false 5 (Jl [.ro 5 b_z b_f b, .ro 5 false false [.sc (.int .u8 (IntKind.u8.wrap (zi (s.extract 0 (J0 (zi s.size) 65535).toNat).size))), .sc (.int .u8 (IntKind.u8.wrap (Jw IntKind.i64 (zi (s.extract 0 (J0 (zi s.size) 65535).toNat).size) 8)))], .ro 5 false false (List.take (s.extract 0 (J0 (zi s.size) 65535).toNat).size (Jm (s.extract 0 (J0 (zi s.size) 65535).toNat)))]).isEmpty (Jl [.ro 5 b_z b_f b, .ro 5 false false [.sc (.int .u8 (IntKind.u8.wrap (zi (s.extract 0 (J0 (zi s.size) 65535).toNat).size))), .sc (.int .u8 (IntKind.u8.wrap (Jw IntKind.i64 (zi (s.extract 0 (J0 (zi s.size) 65535).toNat).size) 8)))], .ro 5 false false (List.take (s.extract 0 (J0 (zi s.size) 65535).toNat).size (Jm (s.extract 0 (J0 (zi s.size) 65535).toNat)))])]) else none else none else none
theorem JzJ (f : Nat) (b_z : Bool) (b_f : Bool) (b : List PV) (s : ByteArray) (k : Res → Option Res) : JM tau Jws Try.f98 (Try.f98.body.get!) Jih [] 0 [.ro 5 b_z b_f b, .sc (.string s)] [] k = Jsi f b_z b_f b s k := by kernel_rfl
theorem Jwt (f : Nat) : Jg (Try.f98.body.get!) Jih = [] := by kernel_rfl
theorem Jwu (f : Nat) : ∀ q ∈ Jg (Try.f98.body.get!) Jih, q.Ok tau Try.prog 0 := by
  rw [Jwt f]; intro q hq; cases hq
theorem Jwv : Try.prog.funcs[98]? = some Try.f98 := by kernel_rfl
theorem Jww : Try.f98.body = some (Try.f98.body.get!) := by kernel_rfl
noncomputable def Jdt : List PV → List Ent → (Res → Option Res) → Option Res
  | [.ro 5 z f b, .sc (.int .i64 n)], [], k => bif slB z b then k ⟨.ow 5 16 [] 0 (b.length + 1) none, [], [.vec false 5 false (b ++ pu .u8 [IntKind.u8.wrap n])]⟩ else none
  | _, _, _ => none
noncomputable def JzK : Sig := { own := [], run := Jdt }
theorem Jwx : Jh tau Try.prog 96 JzK := Jh.mk' fun xs es k res hl hr => by
  change Jdt xs es k = some res at hr
  unfold Jdt at hr
  split at hr
  · rename_i z f b n
    obtain ⟨hc, hr⟩ := JH hr
    obtain ⟨h1, h2⟩ := Q8.1 hc
    have hg : Jsh 0 z f b n k = some res := by
      have hf : Jl [PV.ro 5 z f b, PV.ro 5 false false [PV.sc (Value.int IntKind.u8 (IntKind.u8.wrap n))]] = b ++ pu .u8 [IntKind.u8.wrap n] := by simp [PV.els, pu]
      have hf2 : Jl [PV.ro 5 z f b, PV.ro 5 false true [PV.sc (Value.int IntKind.u8 (IntKind.u8.wrap n))]] = b ++ pu .u8 [IntKind.u8.wrap n] := by simp [PV.els, pu]
      have he : (b ++ pu .u8 [IntKind.u8.wrap n]).isEmpty = false := by simp
      have hlen : (b ++ pu .u8 [IntKind.u8.wrap n]).length = b.length + 1 := by simp
      unfold Jsh
      simp only [hf, hf2, List.take_length, List.drop_zero, List.take_succ_cons, List.take_zero, he, hlen, Ent.nil]
      rw [Ja (by simp; omega)]
      exact hr
    exact Ql Jq Jnx Jr Jwq Jwr Jig [] 0 0 (Jwp 0) hl rfl ((JzI 0 z f b n k).trans hg)
  · cases hr
noncomputable def Jdu : List PV → List Ent → (Res → Option Res) → Option Res
  | [.ro 5 z f b, .sc (.string s)], [], k => bif slB z b && Nat.ble s.size 65535 then k ⟨.ow 5 16 [] 0 (b.length + (s.size + 2)) none, [], [.vec false 5 false (b ++ pu .u8 (Qf s))]⟩ else none
  | _, _, _ => none
noncomputable def JzL : Sig := { own := [], run := Jdu }
theorem Jwy : Jh tau Try.prog 98 JzL := Jh.mk' fun xs es k res hl hr => by
  change Jdu xs es k = some res at hr
  unfold Jdu at hr
  split at hr
  · rename_i z f b s
    obtain ⟨hc, hr⟩ := JH hr
    rw [Bool.and_eq_true, Nat.ble_eq] at hc
    obtain ⟨h1, h2⟩ := Q8.1 hc.1
    have hg : Jsi 0 z f b s k = some res := by
      have hm : J0 (zi s.size) 65535 = (s.size : Int) := by unfold J0; rw [if_neg (by simp only [zi]; omega)]
      unfold Jsi
      simp only [hm, Int.toNat_natCast, Je0]
      have hf : ∀ x y : Bool, Jl [PV.ro 5 z f b, PV.ro 5 false x [PV.sc (Value.int IntKind.u8 (IntKind.u8.wrap (zi s.size))), PV.sc (Value.int IntKind.u8 (IntKind.u8.wrap (Jw IntKind.i64 (zi s.size) 8)))], PV.ro 5 false y (List.take s.size (Jm s))] = b ++ pu .u8 (Qf s) := by
        intro x y
        rw [Q6, List.take_of_length_le (by simp), QY, XW]
        simp [PV.els, pu]
      have he : (b ++ pu .u8 (Qf s)).isEmpty = false := by
        rw [QY, XW]; simp
      have hlen : (b ++ pu .u8 (Qf s)).length = b.length + (s.size + 2) := by simp
      simp only [hf, List.take_length, List.drop_zero, List.take_succ_cons, List.take_zero, he, hlen, Ent.nil]
      rw [Ja (by simp), Ja (by simp [Jj]; omega), Ja (by simp; omega)]
      exact hr
    exact Ql Jq Jny Jr Jwv Jww Jih [] 0 0 (Jwu 0) hl rfl ((JzJ 0 z f b s k).trans hg)
  · cases hr
end Go.Proofs.Ytcklhipdldpkhaa.Rx
