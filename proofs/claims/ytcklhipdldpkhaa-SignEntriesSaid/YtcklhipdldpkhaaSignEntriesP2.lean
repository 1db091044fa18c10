/- What the functions of this law compute, and their plain laws. Conditions: none. -/
import Derived.KernelRfl
import Derived.Test.YtcklhipdldpkhaaSignEntriesP1
namespace Go.Proofs.Ytcklhipdldpkhaa.Rx
open Go
set_option linter.unusedVariables false
set_option linter.unusedSimpArgs false
set_option maxRecDepth 100000
set_option maxHeartbeats 0
-- FN slices.Insert[[][]byte,[]byte]
theorem JvJ (els : List PV) (n : Nat) (hn : els.length = n + 1) (hb : n ≤ 1000000000) (c : Nat) (hc : n + 1 ≤ c) (x : PV) :
    ∃ r, JrO 0 false (els ++ List.replicate (c - (n + 1)) .top) n c x some = some r ∧ ∃ p0 p1, r = ⟨.ro 29 false false (x :: els), [p0, p1], []⟩ := by
  have h1 : IntKind.i64.wrap (zi (n + 1) + zi 1) = ((n + 2 : Nat) : Int) := by simp only [zi]; rw [wrap_i64 (by omega) (by omega)]; omega
  have h2 : IntKind.i64.wrap (((n + 2 : Nat) : Int) - 0) = ((n + 2 : Nat) : Int) := by rw [wrap_i64 (by omega) (by omega)]; omega
  have h3 : (((n + 2 : Nat) : Int)).toNat = n + 2 := by omega
  have hL : (els ++ List.replicate (c - (n + 1)) PV.top).length = c := by simp; omega
  have hB : ∀ a b, a < b → Nat.blt a b = true := fun a b h => by rw [Nat.blt, Nat.ble_eq]; exact h
  unfold JrO
  simp only [h1, h2, h3, Option.getD_some, Option.getD_none, Nat.sub_zero, Nat.zero_add, List.nil_append]
  have hbt : ∀ {c : Bool} {a b : Option Res} (h : c = true), (bif c then a else b) = a := fun h => Jb h
  by_cases hg : c < n + 2
  · obtain rfl : c = n + 1 := by omega
    have e0 : n + 1 - (n + 1) = 0 := by omega
    simp only [e0, List.replicate_zero, List.append_nil, List.length_append, List.length_take, List.length_drop, List.length_replicate, List.length_cons, List.length_nil]
    have t1 : List.take (n + 2) [x] = [x] := List.take_of_length_le (by simp)
    have t2 : List.take (n + 1) els = els := List.take_of_length_le (by omega)
    have t3 : List.take 1 ([x] ++ List.drop (min 1 (n + 2)) (List.replicate (n + 2) (PV.ro 5 true true []))) = [x] := by simp
    have hr : Jj (n + 2) 24 = true := by simp [Jj]; omega
    refine ⟨_, (hbt (by simp <;> omega)).trans ((hbt (by simp [zi] <;> omega)).trans ((hbt (by simp only [hr]; simp <;> omega)).trans ((hbt (by simp)).trans ((hbt (by simp <;> omega)).trans ((hbt (by simp <;> omega)).trans rfl))))), ?_⟩
    simp only [t1, t2, t3, hn]
    have t4 : List.take (n + 2 - 1) els = els := List.take_of_length_le (by omega)
    have t5 : List.drop (1 + min (min (n + 1) (n + 1)) (n + 2 - 1)) ([x] ++ List.drop (min 1 (n + 2)) (List.replicate (n + 2) (PV.ro 5 true true []))) = [] := List.drop_eq_nil_iff.2 (by simp; omega)
    rw [t4, t5]
    have t6 : List.take (n + 2) ([x] ++ els ++ []) = x :: els := by rw [List.take_of_length_le (by simp; omega)]; simp
    rw [t6]
    exact ⟨_, _, rfl⟩
  · have t1 : List.take (n + 2 - 1) (List.take (n + 2) (els ++ List.replicate (c - (n + 1)) PV.top)) = els := by
      rw [List.take_take, show min (n + 2 - 1) (n + 2) = els.length from by omega, List.take_left']
      rfl
    have t2 : (List.take (n + 2) (els ++ List.replicate (c - (n + 1)) PV.top)).length = n + 2 := by rw [List.length_take]; omega
    have t3 : List.take (n + 2) [x] = [x] := List.take_of_length_le (by simp)
    refine ⟨_, (hbt (by simp; omega)).trans ((Jx (by simp [zi]; omega)).trans ((hbt (by simp; omega)).trans ((hbt (by simp; omega)).trans ((hbt (by rw [hB _ _ (by omega)]; rfl)).trans ((hbt (by simp; omega)).trans ((hbt (by simp; omega)).trans ((hbt (by simp; omega)).trans rfl))))))), ?_⟩
    simp only [t1, t2, t3]
    have hT : ∀ R : List PV, List.take (n + 2) ([x] ++ List.drop (min 1 (n + 2)) (List.take 1 (els ++ List.replicate (c - (n + 1)) PV.top) ++ els ++ R)) = x :: els := by
      intro R
      have hone : (List.take 1 (els ++ List.replicate (c - (n + 1)) PV.top)).length = 1 := by rw [List.length_take]; omega
      rw [show min 1 (n + 2) = 1 from by omega, List.append_assoc, List.drop_left' hone, ← List.append_assoc, List.take_left' (by simp; omega)]
      rfl
    rw [hT]
    exact ⟨_, _, rfl⟩
def Jds : List PV → List Ent → (Res → Option Res) → Option Res
  | [.ow 29 0 [] 0 m none, .sc (.int .i64 0), .ow 29 1 [] 0 1 (some 1)], [.vec false 29 false els, .vec false 29 false [x]], k => bif decide (m = els.length) && decide (els.length ≤ 1000000000) then k ⟨.ro 29 false false (x :: els), [.dead, .dead], []⟩ else none
  | [.ro 29 true true [], .sc (.int .i64 0), .ow 29 0 [] 0 1 (some 1)], [.vec false 29 false [x]], k => k ⟨.ro 29 false false [x], [.vec false 29 false [x]], []⟩
  | _, _, _ => none
def JpJ : Sig := { own := [true, false, true], run := Jds }
theorem JkN : tau.isPtr 29 = false := by kernel_rfl
theorem JrX : Jk tau Try.prog 140 JpJ := Jk.mk' fun xs es k res hl hr => by
  change Jds xs es k = some res at hr
  unfold Jds at hr
  split at hr
  · rename_i m els x
    obtain ⟨hc, hr2⟩ := JL hr
    simp only [Bool.and_eq_true, decide_eq_true_eq] at hc
    obtain ⟨rfl, hb⟩ := hc
    by_cases h0 : els = []
    · subst h0
      have h1 := (JvI 0 false x some)
      have h2 := Qp Js JkM Jt JrV JrW Jdr [.ro] 2 0 (JrU 0) hl rfl h1
      obtain ⟨r0, hr0, hc0⟩ := h2
      obtain rfl := Option.some.inj hr0
      refine ⟨_, hr2, fun im ow w us hus hi => (hc0 im ow w us hus hi).mono fun e w' hR => ?_⟩
      obtain ⟨u, im', ow', he, hv, G⟩ := hR
      refine ⟨u, im', ow', he, hv, ?_⟩
      have K := Good.kill (i := 1) (e := .vec false 29 false [x]) G.inv rfl
      have e1 : JP (JK [Ent.dead, .vec false 29 false [x]] []) 1 .dead = JK [.dead, .dead] [] := by
        funext i
        match i with
        | 0 => rfl
        | 1 => rfl
        | i + 2 => simp [JP, JK]
      rw [e1] at K
      exact G.trans K
    · obtain ⟨n, hn⟩ : ∃ n, els.length = n + 1 := ⟨els.length - 1, by have : 0 < els.length := List.length_pos_iff.2 h0; omega⟩
      refine Jrb Js (by omega) JkN JkN hr2 fun c hc => ?_
      obtain ⟨r, hg, p0, p1, rfl⟩ := JvJ els n hn (by omega) c (by omega) x
      rw [hn]
      generalize els ++ List.replicate (c - (n + 1)) PV.top = L at hg ⊢
      refine ⟨p0, p1, ?_⟩
      have h1 := (JzL 0 false L n c x some).trans hg
      exact Qp Js Jnm Jt JpF JpG Jie [.ro] 2 0 (JvD 0) hl rfl h1
  · rename_i x
    exact Qp Js JkL Jt JrR JrS Jdq [.ro] 1 0 (JrQ 0) hl rfl ((JvG 0 x k).trans hr)
  · cases hr
noncomputable def JvK : Fns := F0
theorem Jnn : JA tau Try.prog JvK := JJ
def Jno : Nm := [(0, .any), (2, .any), (3, .any), (5, .any)]
def JrY : An := (.seq .leaf (.seq (.cond .leaf .leaf) (.seq (.block none (.seq .leaf .leaf)) .leaf)))
def Jif : An := (.seq .leaf (.seq .leaf (.seq (.seq .leaf (.block none (.loop Jno JrY))) (.seq .leaf .leaf))))
noncomputable def JvL (f : Nat) (x : Int) (k : Res → Option Res) : Option Res := k (Res.mk (.ar 190 [.sc (.int .u8 x), .sc (.int .u8 x), .sc (.int .u8 x), .sc (.int .u8 x), .sc (.int .u8 x), .sc (.int .u8 x), .sc (.int .u8 x), .sc (.int .u8 x), .sc (.int .u8 x), .sc (.int .u8 x), .sc (.int .u8 x), .sc (.int .u8 x), .sc (.int .u8 x), .sc (.int .u8 x), .sc (.int .u8 x), .sc (.int .u8 x), .sc (.int .u8 x), .sc (.int .u8 x), .sc (.int .u8 x), .sc (.int .u8 x), .sc (.int .u8 x), .sc (.int .u8 x), .sc (.int .u8 x), .sc (.int .u8 x), .sc (.int .u8 x), .sc (.int .u8 x), .sc (.int .u8 x), .sc (.int .u8 x), .sc (.int .u8 x), .sc (.int .u8 x), .sc (.int .u8 x), .sc (.int .u8 x), .sc (.int .u8 x), .sc (.int .u8 x), .sc (.int .u8 x), .sc (.int .u8 x), .sc (.int .u8 x), .sc (.int .u8 x), .sc (.int .u8 x), .sc (.int .u8 x), .sc (.int .u8 x), .sc (.int .u8 x), .sc (.int .u8 x), .sc (.int .u8 x), .sc (.int .u8 x), .sc (.int .u8 x), .sc (.int .u8 x), .sc (.int .u8 x), .sc (.int .u8 x), .sc (.int .u8 x), .sc (.int .u8 x), .sc (.int .u8 x), .sc (.int .u8 x), .sc (.int .u8 x), .sc (.int .u8 x), .sc (.int .u8 x), .sc (.int .u8 x), .sc (.int .u8 x), .sc (.int .u8 x), .sc (.int .u8 x), .sc (.int .u8 x), .sc (.int .u8 x), .sc (.int .u8 x), .sc (.int .u8 x)]) [] [])
theorem JzM (f : Nat) (x : Int) (k : Res → Option Res) : JN tau JvK Try.f159 (Try.f159.body.get!) Jif [.ro] 70 [.sc (.int .u8 x)] [] k = JvL f x k := by kernel_rfl
theorem JvM (f : Nat) : Ji (Try.f159.body.get!) Jif = [] := by kernel_rfl
theorem JvN (f : Nat) : ∀ q ∈ Ji (Try.f159.body.get!) Jif, q.Ok tau Try.prog 0 := by
  rw [JvM f]; intro q hq; cases hq
theorem JpK : Try.prog.funcs[159]? = some Try.f159 := by kernel_rfl
theorem JpL : Try.f159.body = some (Try.f159.body.get!) := by kernel_rfl
theorem JvO : Enters Try.prog 159 := enters_of JpK (by kernel_rfl) JpL
noncomputable def JgN : List PV → List Ent → (Res → Option Res) → Option Res
  | [.sc (.int .u8 x)], [], k => JvL 0 x k
  | _, _, _ => none
noncomputable def JvP : Sig := { own := [], run := JgN }
theorem JvQ : Jk tau Try.prog 159 JvP := JV Js Jnn Jt JpK JpL Jif [.ro] 0 [] JgN (JvN 0) fun xs es k res hr => by
  unfold JgN at hr
  split at hr
  · exact ⟨rfl, 70, (JzM 0 _  _).trans hr⟩
  · cases hr
def JbM : Nat := 26
noncomputable def JkO : Fns := JH 159 JvP (F0)
theorem Jig : JA tau Try.prog JkO := (JJ).add JvQ JvO
noncomputable def Gz : Code := Qy (Try.f141.body.get!) [1, 1, 1, 0, 1, 0, 0]
def Wx : Nm := [(2, .any), (5, .any), (13, .any)]
def W9 : Nm := [(5, .any)]
def Jbf : An := (.seq .leaf (.seq (.cond .leaf .leaf) (.seq (.block none (.seq .leaf .leaf)) .leaf)))
def Jih (r0 : Q6) : An := (.seq .leaf (.seq .leaf (.seq (.seq .leaf (.cond (.seq .leaf .leaf) .leaf)) (.seq (.seq .leaf (.block none (.sum Wx JbM r0))) (.seq .leaf .leaf)))))
noncomputable def Y5 (f : Nat) (rc : Int → List PV → List PV → Option Res) (k0 : List PV → Option Res) (v0 : Int) (v1 : List PV) (v2 : List PV) : Option Res := bif decide (v0 < 64) then bif decide (0 ≤ v0) && decide (v0 < zi 64) && true then bif PV.isInt IntKind.u8 (Jn (PV.ar 190 v2) [v0.toNat]) && true then bif decide (0 ≤ v0) && decide (v0 < zi 64) && true then bif PV.isInt IntKind.u8 (Jn (PV.ar 190 v1) [v0.toNat]) && true then bif decide (0 ≤ v0) && decide (v0 < zi 64) && true then rc (IntKind.i64.wrap (v0 + 1)) v1 (v2.set v0.toNat (.sc (.int .u8 (JE BinOp.xor IntKind.u8 (Jn (PV.ar 190 v2) [v0.toNat]).int (Jn (PV.ar 190 v1) [v0.toNat]).int)))) else none else none else none else none else none else k0 v2
noncomputable def Xa (f : Nat) (k0 : List PV → Option Res) : Nat → Int → List PV → List PV → Option Res
  | 0, _, _, _ => none
  | n + 1, v0, v1, v2 => Y5 f (Xa f k0 n) k0 v0 v1 v2
theorem JkP (f : Nat) (k : Kont) (n : Nat) (v0 : Int) (v1 : List PV) (v2 : List PV) : Jq tau 0 Wx (fun s k => ev tau JkO 0 0 Gz (Jbf ) s k) (n + 1) (Je Wx JbM [.ptr 432 [], .ptr 433 [], .sc (.int .i64 v0)] [(432, .box false 190 (PV.ar 190 v1)), (433, .box false 190 (PV.ar 190 v2))]) (Jz tau 0 W9 k) = Y5 f (fun v0 v1 v2 => Jq tau 0 Wx (fun s k => ev tau JkO 0 0 Gz (Jbf ) s k) n (Je Wx JbM [.ptr 432 [], .ptr 433 [], .sc (.int .i64 v0)] [(432, .box false 190 (PV.ar 190 v1)), (433, .box false 190 (PV.ar 190 v2))]) (Jz tau 0 W9 k)) (fun x0 => k (Ex.exit 0) (Je W9 JbM [.ptr 432 []] [(432, .box false 190 (PV.ar 190 x0))])) v0 v1 v2 := by kernel_rfl
theorem Je9 (f : Nat) (k : Kont) : ∀ (n : Nat) (v0 : Int) (v1 : List PV) (v2 : List PV), Jq tau 0 Wx (fun s k => ev tau JkO 0 0 Gz (Jbf ) s k) n (Je Wx JbM [.ptr 432 [], .ptr 433 [], .sc (.int .i64 v0)] [(432, .box false 190 (PV.ar 190 v1)), (433, .box false 190 (PV.ar 190 v2))]) (Jz tau 0 W9 k) = Xa f (fun x0 => k (Ex.exit 0) (Je W9 JbM [.ptr 432 []] [(432, .box false 190 (PV.ar 190 x0))])) n v0 v1 v2 | 0, _, _, _ => rfl | n + 1, v0, v1, v2 => (JkP f k n v0 v1 v2).trans (congrArg (fun r => Y5 f r (fun x0 => k (Ex.exit 0) (Je W9 JbM [.ptr 432 []] [(432, .box false 190 (PV.ar 190 x0))])) v0 v1 v2) (by funext v0 v1 v2; exact Je9 f k n v0 v1 v2))
noncomputable def Z7 (f : Nat) : List PV → List (Nat × Ent) → Kont → Option Res
  | [.ptr 432 [], .ptr 433 [],
  PV.sc
    (Value.int IntKind.i64
      v0)], [(432, .box false 190 (PV.ar 190 v1)),
  (433, .box false 190 (PV.ar 190 v2))], k => Xa f (fun x0 => k (Ex.exit 0) (Je W9 JbM [.ptr 432 []] [(432, .box false 190 (PV.ar 190 x0))])) f v0 v1 v2
  | _, _, _ => none
theorem Jnp (f : Nat) : Ji Gz Jbf = [] := by kernel_rfl
theorem JrZ (f : Nat) : (Item.l Gz Wx JbM (Z7 f)).Ok tau Try.prog 0 := JM Js Jig Jt (x := Jbf) (nm2 := W9) (Jr _ _ (by rw [Jnp f]; intro q hq; cases hq)) fun vs hp k res hr => by
  unfold Z7 at hr
  split at hr
  · exact ⟨f, 0, (Je9 f _ f _ _ _ ).trans hr⟩
  · cases hr
noncomputable def Jnq (f : Nat) (k1 : List PV) (x : Int) (k : Res → Option Res) : Option Res := bif decide (k1.length = 64) && true && Jd IntKind.u8 k1 && true && true then bif J6 k1 [.sc (.int .u8 0), .sc (.int .u8 0), .sc (.int .u8 0), .sc (.int .u8 0), .sc (.int .u8 0), .sc (.int .u8 0), .sc (.int .u8 0), .sc (.int .u8 0), .sc (.int .u8 0), .sc (.int .u8 0), .sc (.int .u8 0), .sc (.int .u8 0), .sc (.int .u8 0), .sc (.int .u8 0), .sc (.int .u8 0), .sc (.int .u8 0), .sc (.int .u8 0), .sc (.int .u8 0), .sc (.int .u8 0), .sc (.int .u8 0), .sc (.int .u8 0), .sc (.int .u8 0), .sc (.int .u8 0), .sc (.int .u8 0), .sc (.int .u8 0), .sc (.int .u8 0), .sc (.int .u8 0), .sc (.int .u8 0), .sc (.int .u8 0), .sc (.int .u8 0), .sc (.int .u8 0), .sc (.int .u8 0), .sc (.int .u8 0), .sc (.int .u8 0), .sc (.int .u8 0), .sc (.int .u8 0), .sc (.int .u8 0), .sc (.int .u8 0), .sc (.int .u8 0), .sc (.int .u8 0), .sc (.int .u8 0), .sc (.int .u8 0), .sc (.int .u8 0), .sc (.int .u8 0), .sc (.int .u8 0), .sc (.int .u8 0), .sc (.int .u8 0), .sc (.int .u8 0), .sc (.int .u8 0), .sc (.int .u8 0), .sc (.int .u8 0), .sc (.int .u8 0), .sc (.int .u8 0), .sc (.int .u8 0), .sc (.int .u8 0), .sc (.int .u8 0), .sc (.int .u8 0), .sc (.int .u8 0), .sc (.int .u8 0), .sc (.int .u8 0), .sc (.int .u8 0), .sc (.int .u8 0), .sc (.int .u8 0), .sc (.int .u8 0)] then k (Res.mk (.ro 5 false false [.sc (.int .u8 x), .sc (.int .u8 x), .sc (.int .u8 x), .sc (.int .u8 x), .sc (.int .u8 x), .sc (.int .u8 x), .sc (.int .u8 x), .sc (.int .u8 x), .sc (.int .u8 x), .sc (.int .u8 x), .sc (.int .u8 x), .sc (.int .u8 x), .sc (.int .u8 x), .sc (.int .u8 x), .sc (.int .u8 x), .sc (.int .u8 x), .sc (.int .u8 x), .sc (.int .u8 x), .sc (.int .u8 x), .sc (.int .u8 x), .sc (.int .u8 x), .sc (.int .u8 x), .sc (.int .u8 x), .sc (.int .u8 x), .sc (.int .u8 x), .sc (.int .u8 x), .sc (.int .u8 x), .sc (.int .u8 x), .sc (.int .u8 x), .sc (.int .u8 x), .sc (.int .u8 x), .sc (.int .u8 x), .sc (.int .u8 x), .sc (.int .u8 x), .sc (.int .u8 x), .sc (.int .u8 x), .sc (.int .u8 x), .sc (.int .u8 x), .sc (.int .u8 x), .sc (.int .u8 x), .sc (.int .u8 x), .sc (.int .u8 x), .sc (.int .u8 x), .sc (.int .u8 x), .sc (.int .u8 x), .sc (.int .u8 x), .sc (.int .u8 x), .sc (.int .u8 x), .sc (.int .u8 x), .sc (.int .u8 x), .sc (.int .u8 x), .sc (.int .u8 x), .sc (.int .u8 x), .sc (.int .u8 x), .sc (.int .u8 x), .sc (.int .u8 x), .sc (.int .u8 x), .sc (.int .u8 x), .sc (.int .u8 x), .sc (.int .u8 x), .sc (.int .u8 x), .sc (.int .u8 x), .sc (.int .u8 x), .sc (.int .u8 x)]) [] []) else Xa f (fun x0_0 => k (Res.mk (.ro 5 false false (List.take 64 x0_0)) [] [])) f (0) k1 ([.sc (.int .u8 x), .sc (.int .u8 x), .sc (.int .u8 x), .sc (.int .u8 x), .sc (.int .u8 x), .sc (.int .u8 x), .sc (.int .u8 x), .sc (.int .u8 x), .sc (.int .u8 x), .sc (.int .u8 x), .sc (.int .u8 x), .sc (.int .u8 x), .sc (.int .u8 x), .sc (.int .u8 x), .sc (.int .u8 x), .sc (.int .u8 x), .sc (.int .u8 x), .sc (.int .u8 x), .sc (.int .u8 x), .sc (.int .u8 x), .sc (.int .u8 x), .sc (.int .u8 x), .sc (.int .u8 x), .sc (.int .u8 x), .sc (.int .u8 x), .sc (.int .u8 x), .sc (.int .u8 x), .sc (.int .u8 x), .sc (.int .u8 x), .sc (.int .u8 x), .sc (.int .u8 x), .sc (.int .u8 x), .sc (.int .u8 x), .sc (.int .u8 x), .sc (.int .u8 x), .sc (.int .u8 x), .sc (.int .u8 x), .sc (.int .u8 x), .sc (.int .u8 x), .sc (.int .u8 x), .sc (.int .u8 x), .sc (.int .u8 x), .sc (.int .u8 x), .sc (.int .u8 x), .sc (.int .u8 x), .sc (.int .u8 x), .sc (.int .u8 x), .sc (.int .u8 x), .sc (.int .u8 x), .sc (.int .u8 x), .sc (.int .u8 x), .sc (.int .u8 x), .sc (.int .u8 x), .sc (.int .u8 x), .sc (.int .u8 x), .sc (.int .u8 x), .sc (.int .u8 x), .sc (.int .u8 x), .sc (.int .u8 x), .sc (.int .u8 x), .sc (.int .u8 x), .sc (.int .u8 x), .sc (.int .u8 x), .sc (.int .u8 x)]) else none
theorem JzN (f : Nat) (k1 : List PV) (x : Int) (k : Res → Option Res) : JN tau JkO Try.f141 (Try.f141.body.get!) (Jih (Z7 f)) [.ro] 0 [.ar 190 k1, .sc (.int .u8 x)] [] k = Jnq f k1 x k := by kernel_rfl
theorem JvR (f : Nat) : Ji (Try.f141.body.get!) (Jih (Z7 f)) = [.l Gz Wx JbM (Z7 f)] := by kernel_rfl
theorem JvS (f : Nat) : ∀ q ∈ Ji (Try.f141.body.get!) (Jih (Z7 f)), q.Ok tau Try.prog 0 := by
  rw [JvR f]; simp only [List.forall_mem_cons, List.not_mem_nil, false_implies, implies_true, and_true]; exact JrZ f
theorem JpM : Try.prog.funcs[141]? = some Try.f141 := by kernel_rfl
theorem JpN : Try.f141.body = some (Try.f141.body.get!) := by kernel_rfl
theorem JvT : Enters Try.prog 141 := enters_of JpM (by kernel_rfl) JpN
-- FN (hmac.block).turned
def JT (l : List Int) (x : Int) : List Int := l.map fun b => JE .xor .u8 b x
@[simp] theorem Jfa (l : List Int) (x : Int) : (JT l x).length = l.length := by simp [JT]
theorem Jfb (K : List Int) (hK : K.length = 64) (x : Int) : (List.range 64).map (fun j => JE .xor .u8 x (K.getD j 0)) = JT K x := by
  apply List.ext_getElem
  · simp [hK]
  · intro i h1 h2
    have h1' : i < K.length := by simpa using h2
    simp only [List.getElem_map, List.getElem_range, JT]
    rw [ZR, List.getD_eq_getElem?_getD, List.getElem?_eq_getElem h1']; rfl
theorem JkQ (K : List Int) (hK : K.length = 64) (x : Int) (f : Nat) (k0 : List PV → Option Res) : ∀ (d i n : Nat), i + d = 64 → d < n →
    Xa f k0 n (i : Int) (pu .u8 K) (pu .u8 (Qs (fun j => JE .xor .u8 x (K.getD j 0)) (List.replicate 64 x) i)) = k0 (pu .u8 (JT K x))
  | 0, i, n + 1, h, hn => by
      obtain rfl : i = 64 := by omega
      simp only [Xa, Y5]
      refine (Jx (by decide)).trans ?_
      have := QP (fun j => JE .xor .u8 x (K.getD j 0)) (List.replicate 64 x)
      rw [List.length_replicate] at this
      rw [this, Jfb K hK]
  | d + 1, i, n + 1, h, hn => by
      have g1 : ((i : Int)).toNat = i := by omega
      have h1 : IntKind.i64.wrap ((i : Int) + 1) = ((i + 1 : Nat) : Int) := by rw [wrap_i64 (by omega) (by omega)]; omega
      have c0 : (decide (0 ≤ (i : Int)) && decide ((i : Int) < zi 64) && true) = true := by simp; omega
      have hF := XU (fun j => JE .xor .u8 x (K.getD j 0)) (List.replicate 64 x) i (by simp; omega)
      rw [List.length_replicate] at hF
      simp only [Xa, Y5, g1, h1, Ws]
      rw [JY (by omega), JY (by omega), Qn (by omega), Qn (by omega), Gv _ _ _ (by simp; omega), Wn]
      refine (Jb (by simp; omega)).trans ((Jb c0).trans ((Jb rfl).trans ((Jb c0).trans ((Jb rfl).trans ((Jb c0).trans ?_)))))
      have := JkQ K hK x f k0 d (i + 1) n (by omega) (by omega)
      rw [← Qo _ _ i (by simp; omega)] at this
      rw [show (List.replicate 64 x).getD i 0 = x from by rw [List.getD_eq_getElem?_getD, List.getElem?_replicate, if_pos (by omega)]; rfl]
      exact this
theorem JvU : JT (List.replicate 64 0) 54 = List.replicate 64 54 ∧ JT (List.replicate 64 0) 92 = List.replicate 64 92 := by
  have h1 : JE .xor .u8 0 54 = 54 := by decide
  have h2 : JE .xor .u8 0 92 = 92 := by decide
  simp only [JT, List.map_replicate, h1, h2, and_self]
theorem JjB (l : List PV) (x : Int) (k : Res → Option Res) : Jnq 70 l x k =
    (bif decide (l.length = 64) && true && Jd IntKind.u8 l && true && true then
      (bif J6 l (pu .u8 (List.replicate 64 0)) then k ⟨.ro 5 false false (pu .u8 (List.replicate 64 x)), [], []⟩
      else Xa 70 (fun x0_0 => k (Res.mk (PV.ro 5 false false (List.take 64 x0_0)) [] [])) 70 0 l (pu .u8 (List.replicate 64 x)))
    else none) := by kernel_rfl
theorem Jnr (K : List Int) (hK : K.length = 64) (x : Int) (hx : x = 54 ∨ x = 92) (k : Res → Option Res) : Jnq 70 (pu .u8 K) x k = k ⟨.ro 5 false false (pu .u8 (JT K x)), [], []⟩ := by
  have h0 := JkQ K hK x 70 (fun x0_0 => k (Res.mk (PV.ro 5 false false (List.take 64 x0_0)) [] [])) 64 0 70 (by omega) (by omega)
  rw [Qz, List.take_of_length_le (by simp [hK])] at h0
  rw [JjB, Jb (by simp [hK]), WK]
  by_cases hk : K = List.replicate 64 0
  · have h1 : JT K x = List.replicate 64 x := by
      rw [hk]
      rcases hx with h | h
      · rw [h]; exact JvU.1
      · rw [h]; exact JvU.2
    rw [Jb (beq_iff_eq.2 hk), h1]
  · rw [Jx (beq_eq_false_iff_ne.2 hk)]
    exact h0
def Jdt : List PV → List Ent → (Res → Option Res) → Option Res
  | [.ar 190 l, .sc (.int .u8 x)], [], k => bif Jd .u8 l && decide (l.length = 64) && (x == 54 || x == 92) then k ⟨.ro 5 false false (pu .u8 (JT (Jh l) x)), [], []⟩ else none
  | _, _, _ => none
def JpO : Sig := { own := [], run := Jdt }
theorem Jr0 : Jk tau Try.prog 141 JpO := Jk.mk' fun xs es k res hl hr => by
  change Jdt xs es k = some res at hr
  unfold Jdt at hr
  split at hr
  · rename_i l x
    obtain ⟨hc, hr2⟩ := JL hr
    simp only [Bool.and_eq_true, decide_eq_true_eq, Bool.or_eq_true, beq_iff_eq] at hc
    have hp := Qb hc.1.1
    have h2 : Jnq 70 l x k = some res := by
      rw [hp, Jnr _ (by simpa using hc.1.2) x hc.2]; exact hr2
    have h1 := (JzN 70 l x k).trans h2
    exact Qp Js Jig Jt JpM JpN (Jih (Z7 70)) [.ro] 0 0 (JvS 70) hl rfl h1
  · cases hr
noncomputable abbrev z80 : List PV := [PV.sc (.int .u8 0), PV.sc (.int .u8 0), PV.sc (.int .u8 0), PV.sc (.int .u8 0), PV.sc (.int .u8 0), PV.sc (.int .u8 0), PV.sc (.int .u8 0), PV.sc (.int .u8 0), PV.sc (.int .u8 0), PV.sc (.int .u8 0), PV.sc (.int .u8 0), PV.sc (.int .u8 0), PV.sc (.int .u8 0), PV.sc (.int .u8 0), PV.sc (.int .u8 0), PV.sc (.int .u8 0), PV.sc (.int .u8 0), PV.sc (.int .u8 0), PV.sc (.int .u8 0), PV.sc (.int .u8 0), PV.sc (.int .u8 0), PV.sc (.int .u8 0), PV.sc (.int .u8 0), PV.sc (.int .u8 0), PV.sc (.int .u8 0), PV.sc (.int .u8 0), PV.sc (.int .u8 0), PV.sc (.int .u8 0), PV.sc (.int .u8 0), PV.sc (.int .u8 0), PV.sc (.int .u8 0), PV.sc (.int .u8 0), PV.sc (.int .u8 0), PV.sc (.int .u8 0), PV.sc (.int .u8 0), PV.sc (.int .u8 0), PV.sc (.int .u8 0), PV.sc (.int .u8 0), PV.sc (.int .u8 0), PV.sc (.int .u8 0), PV.sc (.int .u8 0), PV.sc (.int .u8 0), PV.sc (.int .u8 0), PV.sc (.int .u8 0), PV.sc (.int .u8 0), PV.sc (.int .u8 0), PV.sc (.int .u8 0), PV.sc (.int .u8 0), PV.sc (.int .u8 0), PV.sc (.int .u8 0), PV.sc (.int .u8 0), PV.sc (.int .u8 0), PV.sc (.int .u8 0), PV.sc (.int .u8 0), PV.sc (.int .u8 0), PV.sc (.int .u8 0), PV.sc (.int .u8 0), PV.sc (.int .u8 0), PV.sc (.int .u8 0), PV.sc (.int .u8 0), PV.sc (.int .u8 0), PV.sc (.int .u8 0), PV.sc (.int .u8 0), PV.sc (.int .u8 0)]
noncomputable def F80 : Fns := JH 141 JpO (JH 140 JpJ (JH 136 Jvz (JH 27 JrN (F0))))
theorem Jr1 : JA tau Try.prog F80 := ((((JJ).add JpC Jvt).add JvA Jvy).add JrX JvE).add Jr0 JvT
def Jns : An := (.seq .leaf (.seq (.seq .leaf (.cond (.seq .leaf .leaf) .leaf)) (.seq .leaf (.seq .leaf (.seq .leaf (.seq .leaf .leaf))))))
noncomputable def g80 (f : Nat) (key_z : Bool) (key_f : Bool) (key : List PV) (parts_z : Bool) (parts_f : Bool) (parts : List PV) (k : Res → Option Res) : Option Res := bif decide (zi key.length > 64) then bif Jd IntKind.u8 (Jo [PV.ro 5 key_z key_f key]) && decide ((Jo [PV.ro 5 key_z key_f key]).length ≤ 140737488355000) then bif parts_z then bif Jd IntKind.u8 (List.take 64 (List.take 32 (pu IntKind.u8 (Ju (Jh (Jo [PV.ro 5 key_z key_f key]))))) ++ List.drop (0 + min (List.take 32 (pu IntKind.u8 (Ju (Jh (Jo [PV.ro 5 key_z key_f key]))))).length 64) z80) && decide ((List.take 64 (List.take 32 (pu IntKind.u8 (Ju (Jh (Jo [PV.ro 5 key_z key_f key]))))) ++ List.drop (0 + min (List.take 32 (pu IntKind.u8 (Ju (Jh (Jo [PV.ro 5 key_z key_f key]))))).length 64) z80).length = 64) && true then bif Jd IntKind.u8 (Jo [PV.ro 5 false false (pu IntKind.u8 (JT (Jh (List.take 64 (List.take 32 (pu IntKind.u8 (Ju (Jh (Jo [PV.ro 5 key_z key_f key]))))) ++ List.drop (0 + min (List.take 32 (pu IntKind.u8 (Ju (Jh (Jo [PV.ro 5 key_z key_f key]))))).length 64) z80)) 54))]) && decide ((Jo [PV.ro 5 false false (pu IntKind.u8 (JT (Jh (List.take 64 (List.take 32 (pu IntKind.u8 (Ju (Jh (Jo [PV.ro 5 key_z key_f key]))))) ++ List.drop (0 + min (List.take 32 (pu IntKind.u8 (Ju (Jh (Jo [PV.ro 5 key_z key_f key]))))).length 64) z80)) 54))]).length ≤ 140737488355000) then bif Jd IntKind.u8 (List.take 64 (List.take 32 (pu IntKind.u8 (Ju (Jh (Jo [PV.ro 5 key_z key_f key]))))) ++ List.drop (0 + min (List.take 32 (pu IntKind.u8 (Ju (Jh (Jo [PV.ro 5 key_z key_f key]))))).length 64) z80) && decide ((List.take 64 (List.take 32 (pu IntKind.u8 (Ju (Jh (Jo [PV.ro 5 key_z key_f key]))))) ++ List.drop (0 + min (List.take 32 (pu IntKind.u8 (Ju (Jh (Jo [PV.ro 5 key_z key_f key]))))).length 64) z80).length = 64) && true then bif Jd IntKind.u8 (Jo [PV.ro 5 false false (pu IntKind.u8 (JT (Jh (List.take 64 (List.take 32 (pu IntKind.u8 (Ju (Jh (Jo [PV.ro 5 key_z key_f key]))))) ++ List.drop (0 + min (List.take 32 (pu IntKind.u8 (Ju (Jh (Jo [PV.ro 5 key_z key_f key]))))).length 64) z80)) 92)), PV.ro 5 false false (List.take 32 (pu IntKind.u8 (Ju (Jh (Jo [PV.ro 5 false false (pu IntKind.u8 (JT (Jh (List.take 64 (List.take 32 (pu IntKind.u8 (Ju (Jh (Jo [PV.ro 5 key_z key_f key]))))) ++ List.drop (0 + min (List.take 32 (pu IntKind.u8 (Ju (Jh (Jo [PV.ro 5 key_z key_f key]))))).length 64) z80)) 54))])))))]) && decide ((Jo [PV.ro 5 false false (pu IntKind.u8 (JT (Jh (List.take 64 (List.take 32 (pu IntKind.u8 (Ju (Jh (Jo [PV.ro 5 key_z key_f key]))))) ++ List.drop (0 + min (List.take 32 (pu IntKind.u8 (Ju (Jh (Jo [PV.ro 5 key_z key_f key]))))).length 64) z80)) 92)), PV.ro 5 false false (List.take 32 (pu IntKind.u8 (Ju (Jh (Jo [PV.ro 5 false false (pu IntKind.u8 (JT (Jh (List.take 64 (List.take 32 (pu IntKind.u8 (Ju (Jh (Jo [PV.ro 5 key_z key_f key]))))) ++ List.drop (0 + min (List.take 32 (pu IntKind.u8 (Ju (Jh (Jo [PV.ro 5 key_z key_f key]))))).length 64) z80)) 54))])))))]).length ≤ 140737488355000) then k (Res.mk (PV.ar 37 (pu IntKind.u8 (Ju (Jh (Jo [PV.ro 5 false false (pu IntKind.u8 (JT (Jh (List.take 64 (List.take 32 (pu IntKind.u8 (Ju (Jh (Jo [PV.ro 5 key_z key_f key]))))) ++ List.drop (0 + min (List.take 32 (pu IntKind.u8 (Ju (Jh (Jo [PV.ro 5 key_z key_f key]))))).length 64) z80)) 92)), PV.ro 5 false false (List.take 32 (pu IntKind.u8 (Ju (Jh (Jo [PV.ro 5 false false (pu IntKind.u8 (JT (Jh (List.take 64 (List.take 32 (pu IntKind.u8 (Ju (Jh (Jo [PV.ro 5 key_z key_f key]))))) ++ List.drop (0 + min (List.take 32 (pu IntKind.u8 (Ju (Jh (Jo [PV.ro 5 key_z key_f key]))))).length 64) z80)) 54))])))))]))))) [] []) else none else none else none else none else bif Jj (0 + parts.length) 24 && true then bif Jd IntKind.u8 (List.take 64 (List.take 32 (pu IntKind.u8 (Ju (Jh (Jo [PV.ro 5 key_z key_f key]))))) ++ List.drop (0 + min (List.take 32 (pu IntKind.u8 (Ju (Jh (Jo [PV.ro 5 key_z key_f key]))))).length 64) z80) && decide ((List.take 64 (List.take 32 (pu IntKind.u8 (Ju (Jh (Jo [PV.ro 5 key_z key_f key]))))) ++ List.drop (0 + min (List.take 32 (pu IntKind.u8 (Ju (Jh (Jo [PV.ro 5 key_z key_f key]))))).length 64) z80).length = 64) && true then bif decide (0 + parts.length = parts.length) && decide (parts.length ≤ 1000000000) then bif parts.all (PV.isRo 5) && decide ((PV.ro 5 false false (pu IntKind.u8 (JT (Jh (List.take 64 (List.take 32 (pu IntKind.u8 (Ju (Jh (Jo [PV.ro 5 key_z key_f key]))))) ++ List.drop (0 + min (List.take 32 (pu IntKind.u8 (Ju (Jh (Jo [PV.ro 5 key_z key_f key]))))).length 64) z80)) 54)) :: parts).length ≤ 140737488355328) && (Jd IntKind.u8 (Jo (PV.ro 5 false false (pu IntKind.u8 (JT (Jh (List.take 64 (List.take 32 (pu IntKind.u8 (Ju (Jh (Jo [PV.ro 5 key_z key_f key]))))) ++ List.drop (0 + min (List.take 32 (pu IntKind.u8 (Ju (Jh (Jo [PV.ro 5 key_z key_f key]))))).length 64) z80)) 54)) :: parts)) && decide ((Jo (PV.ro 5 false false (pu IntKind.u8 (JT (Jh (List.take 64 (List.take 32 (pu IntKind.u8 (Ju (Jh (Jo [PV.ro 5 key_z key_f key]))))) ++ List.drop (0 + min (List.take 32 (pu IntKind.u8 (Ju (Jh (Jo [PV.ro 5 key_z key_f key]))))).length 64) z80)) 54)) :: parts)).length ≤ 140737488355000)) then bif Jd IntKind.u8 (List.take 64 (List.take 32 (pu IntKind.u8 (Ju (Jh (Jo [PV.ro 5 key_z key_f key]))))) ++ List.drop (0 + min (List.take 32 (pu IntKind.u8 (Ju (Jh (Jo [PV.ro 5 key_z key_f key]))))).length 64) z80) && decide ((List.take 64 (List.take 32 (pu IntKind.u8 (Ju (Jh (Jo [PV.ro 5 key_z key_f key]))))) ++ List.drop (0 + min (List.take 32 (pu IntKind.u8 (Ju (Jh (Jo [PV.ro 5 key_z key_f key]))))).length 64) z80).length = 64) && true then bif Jd IntKind.u8 (Jo [PV.ro 5 false false (pu IntKind.u8 (JT (Jh (List.take 64 (List.take 32 (pu IntKind.u8 (Ju (Jh (Jo [PV.ro 5 key_z key_f key]))))) ++ List.drop (0 + min (List.take 32 (pu IntKind.u8 (Ju (Jh (Jo [PV.ro 5 key_z key_f key]))))).length 64) z80)) 92)), PV.ro 5 false false (List.take 32 (pu IntKind.u8 (Ju (Jh (Jo (PV.ro 5 false false (pu IntKind.u8 (JT (Jh (List.take 64 (List.take 32 (pu IntKind.u8 (Ju (Jh (Jo [PV.ro 5 key_z key_f key]))))) ++ List.drop (0 + min (List.take 32 (pu IntKind.u8 (Ju (Jh (Jo [PV.ro 5 key_z key_f key]))))).length 64) z80)) 54)) :: parts))))))]) && decide ((Jo [PV.ro 5 false false (pu IntKind.u8 (JT (Jh (List.take 64 (List.take 32 (pu IntKind.u8 (Ju (Jh (Jo [PV.ro 5 key_z key_f key]))))) ++ List.drop (0 + min (List.take 32 (pu IntKind.u8 (Ju (Jh (Jo [PV.ro 5 key_z key_f key]))))).length 64) z80)) 92)), PV.ro 5 false false (List.take 32 (pu IntKind.u8 (Ju (Jh (Jo (PV.ro 5 false false (pu IntKind.u8 (JT (Jh (List.take 64 (List.take 32 (pu IntKind.u8 (Ju (Jh (Jo [PV.ro 5 key_z key_f key]))))) ++ List.drop (0 + min (List.take 32 (pu IntKind.u8 (Ju (Jh (Jo [PV.ro 5 key_z key_f key]))))).length 64) z80)) 54)) :: parts))))))]).length ≤ 140737488355000) then k (Res.mk (PV.ar 37 (pu IntKind.u8 (Ju (Jh (Jo [PV.ro 5 false false (pu IntKind.u8 (JT (Jh (List.take 64 (List.take 32 (pu IntKind.u8 (Ju (Jh (Jo [PV.ro 5 key_z key_f key]))))) ++ List.drop (0 + min (List.take 32 (pu IntKind.u8 (Ju (Jh (Jo [PV.ro 5 key_z key_f key]))))).length 64) z80)) 92)), PV.ro 5 false false (List.take 32 (pu IntKind.u8 (Ju (Jh (Jo (PV.ro 5 false false (pu IntKind.u8 (JT (Jh (List.take 64 (List.take 32 (pu IntKind.u8 (Ju (Jh (Jo [PV.ro 5 key_z key_f key]))))) ++ List.drop (0 + min (List.take 32 (pu IntKind.u8 (Ju (Jh (Jo [PV.ro 5 key_z key_f key]))))).length 64) z80)) 54)) :: parts))))))]))))) [] []) else none else none else none else none else none else none else none else bif parts_z then bif Jd IntKind.u8 (List.take 64 key ++ List.drop (0 + min key.length 64) z80) && decide ((List.take 64 key ++ List.drop (0 + min key.length 64) z80).length = 64) && true then bif Jd IntKind.u8 (Jo [PV.ro 5 false false (pu IntKind.u8 (JT (Jh (List.take 64 key ++ List.drop (0 + min key.length 64) z80)) 54))]) && decide ((Jo [PV.ro 5 false false (pu IntKind.u8 (JT (Jh (List.take 64 key ++ List.drop (0 + min key.length 64) z80)) 54))]).length ≤ 140737488355000) then bif Jd IntKind.u8 (List.take 64 key ++ List.drop (0 + min key.length 64) z80) && decide ((List.take 64 key ++ List.drop (0 + min key.length 64) z80).length = 64) && true then bif Jd IntKind.u8 (Jo [PV.ro 5 false false (pu IntKind.u8 (JT (Jh (List.take 64 key ++ List.drop (0 + min key.length 64) z80)) 92)), PV.ro 5 false false (List.take 32 (pu IntKind.u8 (Ju (Jh (Jo [PV.ro 5 false false (pu IntKind.u8 (JT (Jh (List.take 64 key ++ List.drop (0 + min key.length 64) z80)) 54))])))))]) && decide ((Jo [PV.ro 5 false false (pu IntKind.u8 (JT (Jh (List.take 64 key ++ List.drop (0 + min key.length 64) z80)) 92)), PV.ro 5 false false (List.take 32 (pu IntKind.u8 (Ju (Jh (Jo [PV.ro 5 false false (pu IntKind.u8 (JT (Jh (List.take 64 key ++ List.drop (0 + min key.length 64) z80)) 54))])))))]).length ≤ 140737488355000) then k (Res.mk (PV.ar 37 (pu IntKind.u8 (Ju (Jh (Jo [PV.ro 5 false false (pu IntKind.u8 (JT (Jh (List.take 64 key ++ List.drop (0 + min key.length 64) z80)) 92)), PV.ro 5 false false (List.take 32 (pu IntKind.u8 (Ju (Jh (Jo [PV.ro 5 false false (pu IntKind.u8 (JT (Jh (List.take 64 key ++ List.drop (0 + min key.length 64) z80)) 54))])))))]))))) [] []) else none else none else none else none else bif Jj (0 + parts.length) 24 && true then bif Jd IntKind.u8 (List.take 64 key ++ List.drop (0 + min key.length 64) z80) && decide ((List.take 64 key ++ List.drop (0 + min key.length 64) z80).length = 64) && true then bif decide (0 + parts.length = parts.length) && decide (parts.length ≤ 1000000000) then bif parts.all (PV.isRo 5) && decide ((PV.ro 5 false false (pu IntKind.u8 (JT (Jh (List.take 64 key ++ List.drop (0 + min key.length 64) z80)) 54)) :: parts).length ≤ 140737488355328) && (Jd IntKind.u8 (Jo (PV.ro 5 false false (pu IntKind.u8 (JT (Jh (List.take 64 key ++ List.drop (0 + min key.length 64) z80)) 54)) :: parts)) && decide ((Jo (PV.ro 5 false false (pu IntKind.u8 (JT (Jh (List.take 64 key ++ List.drop (0 + min key.length 64) z80)) 54)) :: parts)).length ≤ 140737488355000)) then bif Jd IntKind.u8 (List.take 64 key ++ List.drop (0 + min key.length 64) z80) && decide ((List.take 64 key ++ List.drop (0 + min key.length 64) z80).length = 64) && true then bif Jd IntKind.u8 (Jo [PV.ro 5 false false (pu IntKind.u8 (JT (Jh (List.take 64 key ++ List.drop (0 + min key.length 64) z80)) 92)), PV.ro 5 false false (List.take 32 (pu IntKind.u8 (Ju (Jh (Jo (PV.ro 5 false false (pu IntKind.u8 (JT (Jh (List.take 64 key ++ List.drop (0 + min key.length 64) z80)) 54)) :: parts))))))]) && decide ((Jo [PV.ro 5 false false (pu IntKind.u8 (JT (Jh (List.take 64 key ++ List.drop (0 + min key.length 64) z80)) 92)), PV.ro 5 false false (List.take 32 (pu IntKind.u8 (Ju (Jh (Jo (PV.ro 5 false false (pu IntKind.u8 (JT (Jh (List.take 64 key ++ List.drop (0 + min key.length 64) z80)) 54)) :: parts))))))]).length ≤ 140737488355000) then k (Res.mk (PV.ar 37 (pu IntKind.u8 (Ju (Jh (Jo [PV.ro 5 false false (pu IntKind.u8 (JT (Jh (List.take 64 key ++ List.drop (0 + min key.length 64) z80)) 92)), PV.ro 5 false false (List.take 32 (pu IntKind.u8 (Ju (Jh (Jo (PV.ro 5 false false (pu IntKind.u8 (JT (Jh (List.take 64 key ++ List.drop (0 + min key.length 64) z80)) 54)) :: parts))))))]))))) [] []) else none else none else none else none else none else none
theorem e80 (f : Nat) (key_z : Bool) (key_f : Bool) (key : List PV) (parts_z : Bool) (parts_f : Bool) (parts : List PV) (k : Res → Option Res) : JN tau F80 Try.f80 (Try.f80.body.get!) Jns [.ro] 0 [.ro 5 key_z key_f key, .ro 29 parts_z parts_f parts] [] k = g80 f key_z key_f key parts_z parts_f parts k := by kernel_rfl
theorem JzO (f : Nat) : Ji (Try.f80.body.get!) Jns = [] := by kernel_rfl
theorem JzP (f : Nat) : ∀ q ∈ Ji (Try.f80.body.get!) Jns, q.Ok tau Try.prog 0 := by
  rw [JzO f]; intro q hq; cases hq
theorem JvV : Try.prog.funcs[80]? = some Try.f80 := by kernel_rfl
theorem JvW : Try.f80.body = some (Try.f80.body.get!) := by kernel_rfl
theorem Jnt : Enters Try.prog 80 := enters_of JvV (by kernel_rfl) JvW
noncomputable def JkR : List PV → List Ent → (Res → Option Res) → Option Res
  | [.ro 5 key_z key_f key, .ro 29 parts_z parts_f parts], [], k => g80 0 key_z key_f key parts_z parts_f parts k
  | _, _, _ => none
noncomputable def s80 : Sig := { own := [], run := JkR }
theorem JzQ : Jk tau Try.prog 80 s80 := JV Js Jr1 Jt JvV JvW Jns [.ro] 0 [] JkR (JzP 0) fun xs es k res hr => by
  unfold JkR at hr
  split at hr
  · exact ⟨rfl, 0, (e80 0 _ _ _ _ _ _  _).trans hr⟩
  · cases hr
-- FN hmac.Mac
theorem Y6 (a b : List PV) : Jh (a ++ b) = Jh a ++ Jh b := by simp [Jh]
@[simp] theorem JvX : Jh [] = [] := rfl
/-- a key, with noughts behind it -/
def JjC (s : List Int) : List Int := s ++ List.replicate (64 - s.length) 0
def VP (key : List Int) : List Int := if key.length > 64 then JjC (Ju key) else JjC key
def Jfc (key text : List Int) : List Int := Ju (JT (VP key) 92 ++ Ju (JT (VP key) 54 ++ text))
noncomputable def QQ : List Int → List Int → List Int := hid Jfc
theorem Jau (key text : List Int) : QQ key text = Jfc key text := by rw [QQ, hid_eq]
theorem G8 (key text : List Int) : (QQ key text).length = 32 := by rw [Jau]; exact JZ _
theorem Xb (key : List Int) : (VP key).length = 64 := by
  unfold VP JjC
  split
  · rw [List.length_append, JZ, List.length_replicate]
  · rw [List.length_append, List.length_replicate]; omega
def x54 (kb : List PV) : PV := .ro 5 false false (pu .u8 (JT (Jh kb) 54))
def x92 (kb : List PV) : PV := .ro 5 false false (pu .u8 (JT (Jh kb) 92))
def t32 (l : List PV) : PV := .ro 5 false false (List.take 32 (pu .u8 (Ju (Jh (Jo l)))))
def kbG (src : List PV) : List PV := [] ++ List.take 64 src ++ List.drop (0 + min src.length 64) (pu .u8 (List.replicate 64 0))
def VQ (pz : Bool) (parts kb : List PV) (k : Res → Option Res) : Option Res :=
  bif pz then
    bif Jd .u8 kb && decide (kb.length = 64) && true then
      bif Jd .u8 (Jo [x54 kb]) && decide ((Jo [x54 kb]).length ≤ 140737488355000) then
        bif Jd .u8 kb && decide (kb.length = 64) && true then
          bif Jd .u8 (Jo [x92 kb, t32 [x54 kb]]) && decide ((Jo [x92 kb, t32 [x54 kb]]).length ≤ 140737488355000) then
            k ⟨.ar 37 (pu .u8 (Ju (Jh (Jo [x92 kb, t32 [x54 kb]])))), [], []⟩
          else none
        else none
      else none
    else none
  else bif Jj (0 + parts.length) 24 && true then
    bif Jd .u8 kb && decide (kb.length = 64) && true then
      bif decide (0 + parts.length = ([] ++ parts).length) && decide (([] ++ parts).length ≤ 1000000000) then
        bif ([] ++ parts).all (PV.isRo 5) && decide ((x54 kb :: ([] ++ parts)).length ≤ 140737488355328) && (Jd .u8 (Jo (x54 kb :: ([] ++ parts))) && decide ((Jo (x54 kb :: ([] ++ parts))).length ≤ 140737488355000)) then
          bif Jd .u8 kb && decide (kb.length = 64) && true then
            bif Jd .u8 (Jo [x92 kb, t32 (x54 kb :: ([] ++ parts))]) && decide ((Jo [x92 kb, t32 (x54 kb :: ([] ++ parts))]).length ≤ 140737488355000) then
              k ⟨.ar 37 (pu .u8 (Ju (Jh (Jo [x92 kb, t32 (x54 kb :: ([] ++ parts))])))), [], []⟩
            else none
          else none
        else none
      else none
    else none
  else none
theorem JkS (kz kf : Bool) (key : List PV) (pz pf : Bool) (parts : List PV) (k : Res → Option Res) : g80 0 kz kf key pz pf parts k =
    (bif decide (zi key.length > 64) then
      bif Jd .u8 (Jo [.ro 5 kz kf key]) && decide ((Jo [.ro 5 kz kf key]).length ≤ 140737488355000) then
        VQ pz parts (kbG (List.take 32 (pu .u8 (Ju (Jh (Jo [.ro 5 kz kf key])))))) k
      else none
    else VQ pz parts (kbG key) k) := by kernel_rfl
theorem Jdu (s : List Int) (h : s.length ≤ 64) : kbG (pu .u8 s) = pu .u8 (JjC s) := by
  unfold kbG JjC
  rw [JG, show 0 + min s.length 64 = s.length from by omega, JhI, List.drop_replicate, List.take_of_length_le (by simpa using h), List.nil_append, ← JR]
theorem Jbg (K : List Int) (hK : K.length = 64) (pz : Bool) (parts : List PV) (hz : pz = true → parts = []) (h1 : parts.all (PV.isRo 5) = true) (h2 : parts.length ≤ 1000000) (h3 : Jd .u8 (Jo parts) = true) (h4 : (Jo parts).length ≤ 1000000000) (k : Res → Option Res) :
    VQ pz parts (pu .u8 K) k = k ⟨.ar 37 (pu .u8 (Ju (JT K 92 ++ Ju (JT K 54 ++ Jh (Jo parts))))), [], []⟩ := by
  have hk : (Jd .u8 (pu .u8 K) && decide ((pu .u8 K).length = 64) && true) = true := by simp [hK]
  have e54 : x54 (pu .u8 K) = .ro 5 false false (pu .u8 (JT K 54)) := by simp [x54]
  have e92 : x92 (pu .u8 K) = .ro 5 false false (pu .u8 (JT K 92)) := by simp [x92]
  have hS : ∀ l : List Int, List.take 32 (pu .u8 (Ju l)) = pu .u8 (Ju l) := fun l => List.take_of_length_le (by simp [JZ])
  cases pz with
  | true =>
    have := hz rfl; subst this
    have et : t32 [x54 (pu .u8 K)] = .ro 5 false false (pu .u8 (Ju (JT K 54))) := by simp [t32, e54, PV.els, hS]
    unfold VQ
    rw [cond_true, Jb hk, Jb (by simp [e54, PV.els, hK]), Jb hk, et, e92, Jb (by simp [PV.els, hK, QG, JZ])]
    simp [PV.els, Y6]
  | false =>
    have et : t32 (x54 (pu .u8 K) :: ([] ++ parts)) = .ro 5 false false (pu .u8 (Ju (JT K 54 ++ Jh (Jo parts)))) := by
      rw [List.nil_append, t32, e54, ZC, hS]
      simp only [PV.els]
      rw [Y6, Qf]
    unfold VQ
    have hp : (pu IntKind.u8 K).length = 64 := by simp [hK]
    rw [cond_false, Jb (by simp [Jj]; omega), Jb hk, Jb (by simp; omega), Jb, Jb hk, et, e92, Jb (by simp [PV.els, hK, QG, JZ])]
    · simp [PV.els, Y6]
    · rw [e54]
      simp only [List.nil_append, ZC, PV.els, h1, QG, JF, h3, List.length_cons, List.length_append, JG, Jfa, hK, Bool.true_and, Bool.and_true, Bool.and_eq_true, decide_eq_true_eq]
      omega
noncomputable def JgO : List PV → List Ent → (Res → Option Res) → Option Res
  | [.ro 5 kz kf key, .ro 29 pz pf parts], [], k =>
    bif (Jd .u8 key && decide (key.length ≤ 1000000000)) && ((parts.all (PV.isRo 5) && decide (parts.length ≤ 1000000)) && (Jd .u8 (Jo parts) && decide ((Jo parts).length ≤ 1000000000))) && (!pz || parts.isEmpty) then
      k ⟨.ar 37 (pu .u8 (QQ (Jh key) (Jh (Jo parts)))), [], []⟩ else none
  | _, _, _ => none
noncomputable def JkT : Sig := { own := [], run := JgO }
theorem Jr2 (kz kf : Bool) (key : List PV) (pz pf : Bool) (parts : List PV) (k : Res → Option Res) (a1 : Jd .u8 key = true) (a2 : key.length ≤ 1000000000) (h1 : parts.all (PV.isRo 5) = true) (h2 : parts.length ≤ 1000000) (h3 : Jd .u8 (Jo parts) = true) (h4 : (Jo parts).length ≤ 1000000000) (hz : pz = true → parts = []) :
    g80 0 kz kf key pz pf parts k = k ⟨.ar 37 (pu .u8 (QQ (Jh key) (Jh (Jo parts)))), [], []⟩ := by
  rw [JkS, Jau, Jfc]
  have hf : Jo [.ro 5 kz kf key] = key := by simp [PV.els]
  have hi := Qb a1
  by_cases hc : key.length > 64
  · rw [Jb (by simp [zi]; omega), hf, Jb (by simp [a1]; omega), List.take_of_length_le (by simp [JZ]), Jdu _ (by rw [JZ]; omega),
      Jbg _ (by rw [← Xb (Jh key), VP, if_pos (by simpa using hc)]) pz parts hz h1 h2 h3 h4, VP, if_pos (by simpa using hc)]
  · have hl : (Jh key).length ≤ 64 := by simp; omega
    rw [Jx (by simp [zi]; omega), hi, Jdu _ hl, Qf, Jbg _ (by rw [← Xb (Jh key), VP, if_neg (by omega)]) pz parts hz h1 h2 h3 h4, VP, if_neg (by omega)]
theorem Jii : Jk tau Try.prog 80 JkT := JzQ.of fun xs es k res hr => by
  change JgO xs es k = some res at hr
  unfold JgO at hr
  split at hr
  · rename_i kz kf key pz pf parts
    obtain ⟨hc, hr⟩ := JL hr
    simp only [Bool.and_eq_true, decide_eq_true_eq, Bool.or_eq_true, Bool.not_eq_true', List.isEmpty_iff] at hc
    obtain ⟨⟨⟨a1, a2⟩, ⟨h1, h2⟩, h3, h4⟩, hz⟩ := hc
    exact (Jr2 kz kf key pz pf parts k a1 a2 h1 h2 h3 h4 (fun hp => hz.resolve_left (by rw [hp]; decide))).trans hr
  · cases hr

-- FN wire.Parse
structure PA where
  (l : List PV) (b : List PV)
def kOk (l : List PV) : Bool := Jd .u8 l && decide (l.length ≤ 1000000000)
theorem Jnu {z0 f0 z1 f1 z2 f2 : Bool} {k0 k1 k2 : List PV} (h0 : kOk k0 = true) (h1 : kOk k1 = true) (h2 : kOk k2 = true) (d : Int) : kOk (Qv ⟨[.ro 5 z0 f0 k0, .ro 5 z1 f1 k1, .ro 5 z2 f2 k2], d⟩) = true := by
  rw [Jat]
  show kOk (WU _ d).els = true
  unfold WU
  cases h : QB d 2 with
  | false => rfl
  | true =>
    simp only [QB, Bool.and_eq_true, decide_eq_true_eq] at h
    have : d = 0 ∨ d = 1 ∨ d = 2 := by omega
    rcases this with rfl | rfl | rfl
    · exact h0
    · exact h1
    · exact h2
theorem JzR : Try.prog.funcs[96]? = some Try.f96 := by kernel_rfl
theorem JzS : Try.f96.body = some (Try.f96.body.get!) := by kernel_rfl
theorem JvY : Enters Try.prog 96 := enters_of JzR (by kernel_rfl) JzS
theorem JzT : Try.prog.funcs[98]? = some Try.f98 := by kernel_rfl
theorem JzU : Try.f98.body = some (Try.f98.body.get!) := by kernel_rfl
theorem Jr3 : Enters Try.prog 98 := enters_of JzT (by kernel_rfl) JzU
noncomputable def JpP : Fns := F0
theorem JkU : JA tau Try.prog JpP := JJ
def Jdv : An := (.seq .leaf (.seq (.seq .leaf (.cond (.seq .leaf .leaf) .leaf)) (.seq .leaf .leaf)))
noncomputable def JpQ (f : Nat) (s_z : Bool) (s_f : Bool) (s : List PV) (k : Res → Option Res) : Option Res := bif s_z then k (Res.mk (.ro 5 true true []) [] []) else bif Jj (0 + s.length) 1 && true then k (Res.mk (.ow 5 16 [] 0 (0 + s.length) none) [] [.vec false 5 false s]) else none
theorem JvZ (f : Nat) (s_z : Bool) (s_f : Bool) (s : List PV) (k : Res → Option Res) : JN tau JpP Try.f131 (Try.f131.body.get!) Jdv [] 0 [.ro 5 s_z s_f s] [] k = JpQ f s_z s_f s k := by kernel_rfl
theorem Jr4 (f : Nat) : Ji (Try.f131.body.get!) Jdv = [] := by kernel_rfl
theorem Jr5 (f : Nat) : ∀ q ∈ Ji (Try.f131.body.get!) Jdv, q.Ok tau Try.prog 0 := by
  rw [Jr4 f]; intro q hq; cases hq
theorem JkV : Try.prog.funcs[131]? = some Try.f131 := by kernel_rfl
theorem JkW : Try.f131.body = some (Try.f131.body.get!) := by kernel_rfl
theorem JkX : Enters Try.prog 131 := enters_of JkV (by kernel_rfl) JkW
noncomputable def Jdw : List PV → List Ent → (Res → Option Res) → Option Res
  | [.ro 5 s_z s_f s], [], k => JpQ 0 s_z s_f s k
  | _, _, _ => none
noncomputable def JkY : Sig := { own := [], run := Jdw }
theorem JkZ : Jk tau Try.prog 131 JkY := JV Js JkU Jt JkV JkW Jdv [] 0 [] Jdw (Jr5 0) fun xs es k res hr => by
  unfold Jdw at hr
  split at hr
  · exact ⟨rfl, 0, (JvZ 0 _ _ _  _).trans hr⟩
  · cases hr
noncomputable def F97 : Fns := JH 131 JkY (F0)
theorem Jr6 : JA tau Try.prog F97 := (JJ).add JkZ JkX
def Jr7 : Nm := [(0, .any), (1, .any), (5, .own), (6, .any)]
def Jv0 : An := (.seq .leaf (.seq .leaf (.seq .leaf (.seq .leaf (.seq (.seq .leaf (.seq .leaf (.cond .leaf .leaf))) (.seq .leaf .leaf))))))
def Jnv : An := (.seq .leaf (.scope Jr7 Jv0))
noncomputable def g97 (f : Nat) (b_z : Bool) (b_f : Bool) (b : List PV) (n : Int) (k : Res → Option Res) : Option Res := bif b_z then k (Res.mk (.ro 5 false false [.sc (.int .u8 (IntKind.u8.wrap (JB IntKind.u64 (IntKind.u64.wrap n) (IntKind.i64.wrap (8 * 0))))), .sc (.int .u8 (IntKind.u8.wrap (JB IntKind.u64 (IntKind.u64.wrap n) (IntKind.i64.wrap (8 * IntKind.i64.wrap (0 + 1)))))), .sc (.int .u8 (IntKind.u8.wrap (JB IntKind.u64 (IntKind.u64.wrap n) (IntKind.i64.wrap (8 * IntKind.i64.wrap (IntKind.i64.wrap (0 + 1) + 1)))))), .sc (.int .u8 (IntKind.u8.wrap (JB IntKind.u64 (IntKind.u64.wrap n) (IntKind.i64.wrap (8 * IntKind.i64.wrap (IntKind.i64.wrap (IntKind.i64.wrap (0 + 1) + 1) + 1)))))), .sc (.int .u8 (IntKind.u8.wrap (JB IntKind.u64 (IntKind.u64.wrap n) (IntKind.i64.wrap (8 * IntKind.i64.wrap (IntKind.i64.wrap (IntKind.i64.wrap (IntKind.i64.wrap (0 + 1) + 1) + 1) + 1)))))), .sc (.int .u8 (IntKind.u8.wrap (JB IntKind.u64 (IntKind.u64.wrap n) (IntKind.i64.wrap (8 * IntKind.i64.wrap (IntKind.i64.wrap (IntKind.i64.wrap (IntKind.i64.wrap (IntKind.i64.wrap (0 + 1) + 1) + 1) + 1) + 1)))))), .sc (.int .u8 (IntKind.u8.wrap (JB IntKind.u64 (IntKind.u64.wrap n) (IntKind.i64.wrap (8 * IntKind.i64.wrap (IntKind.i64.wrap (IntKind.i64.wrap (IntKind.i64.wrap (IntKind.i64.wrap (IntKind.i64.wrap (0 + 1) + 1) + 1) + 1) + 1) + 1)))))), .sc (.int .u8 (IntKind.u8.wrap (JB IntKind.u64 (IntKind.u64.wrap n) (IntKind.i64.wrap (8 * IntKind.i64.wrap (IntKind.i64.wrap (IntKind.i64.wrap (IntKind.i64.wrap (IntKind.i64.wrap (IntKind.i64.wrap (IntKind.i64.wrap (0 + 1) + 1) + 1) + 1) + 1) + 1) + 1))))))]) [] []) else bif Jj (0 + b.length) 1 && true then bif Jj (0 + b.length + 1) 1 && true then bif Jj (0 + b.length + 1 + 1) 1 && true then bif Jj (0 + b.length + 1 + 1 + 1) 1 && true then bif Jj (0 + b.length + 1 + 1 + 1 + 1) 1 && true then bif Jj (0 + b.length + 1 + 1 + 1 + 1 + 1) 1 && true then bif Jj (0 + b.length + 1 + 1 + 1 + 1 + 1 + 1) 1 && true then bif Jj (0 + b.length + 1 + 1 + 1 + 1 + 1 + 1 + 1) 1 && true then bif Jj (0 + b.length + 1 + 1 + 1 + 1 + 1 + 1 + 1 + 1) 1 && true then bif Jj (0 + (List.take (0 + b.length + 1 + 1 + 1 + 1 + 1 + 1 + 1 + 1) (List.take (0 + b.length + 1 + 1 + 1 + 1 + 1 + 1 + 1) (List.take (0 + b.length + 1 + 1 + 1 + 1 + 1 + 1) (List.take (0 + b.length + 1 + 1 + 1 + 1 + 1) (List.take (0 + b.length + 1 + 1 + 1 + 1) (List.take (0 + b.length + 1 + 1 + 1) (List.take (0 + b.length + 1 + 1) (List.take (0 + b.length + 1) (List.take (0 + b.length) b ++ [.sc (.int .u8 (IntKind.u8.wrap (JB IntKind.u64 (IntKind.u64.wrap n) (IntKind.i64.wrap (8 * 0)))))]) ++ [.sc (.int .u8 (IntKind.u8.wrap (JB IntKind.u64 (IntKind.u64.wrap n) (IntKind.i64.wrap (8 * IntKind.i64.wrap (0 + 1))))))]) ++ [.sc (.int .u8 (IntKind.u8.wrap (JB IntKind.u64 (IntKind.u64.wrap n) (IntKind.i64.wrap (8 * IntKind.i64.wrap (IntKind.i64.wrap (0 + 1) + 1))))))]) ++ [.sc (.int .u8 (IntKind.u8.wrap (JB IntKind.u64 (IntKind.u64.wrap n) (IntKind.i64.wrap (8 * IntKind.i64.wrap (IntKind.i64.wrap (IntKind.i64.wrap (0 + 1) + 1) + 1))))))]) ++ [.sc (.int .u8 (IntKind.u8.wrap (JB IntKind.u64 (IntKind.u64.wrap n) (IntKind.i64.wrap (8 * IntKind.i64.wrap (IntKind.i64.wrap (IntKind.i64.wrap (IntKind.i64.wrap (0 + 1) + 1) + 1) + 1))))))]) ++ [.sc (.int .u8 (IntKind.u8.wrap (JB IntKind.u64 (IntKind.u64.wrap n) (IntKind.i64.wrap (8 * IntKind.i64.wrap (IntKind.i64.wrap (IntKind.i64.wrap (IntKind.i64.wrap (IntKind.i64.wrap (0 + 1) + 1) + 1) + 1) + 1))))))]) ++ [.sc (.int .u8 (IntKind.u8.wrap (JB IntKind.u64 (IntKind.u64.wrap n) (IntKind.i64.wrap (8 * IntKind.i64.wrap (IntKind.i64.wrap (IntKind.i64.wrap (IntKind.i64.wrap (IntKind.i64.wrap (IntKind.i64.wrap (0 + 1) + 1) + 1) + 1) + 1) + 1))))))]) ++ [.sc (.int .u8 (IntKind.u8.wrap (JB IntKind.u64 (IntKind.u64.wrap n) (IntKind.i64.wrap (8 * IntKind.i64.wrap (IntKind.i64.wrap (IntKind.i64.wrap (IntKind.i64.wrap (IntKind.i64.wrap (IntKind.i64.wrap (IntKind.i64.wrap (0 + 1) + 1) + 1) + 1) + 1) + 1) + 1))))))])).length) 1 && true then k (Res.mk (.ro 5 false false (List.take (0 + (List.take (0 + b.length + 1 + 1 + 1 + 1 + 1 + 1 + 1 + 1) (List.take (0 + b.length + 1 + 1 + 1 + 1 + 1 + 1 + 1) (List.take (0 + b.length + 1 + 1 + 1 + 1 + 1 + 1) (List.take (0 + b.length + 1 + 1 + 1 + 1 + 1) (List.take (0 + b.length + 1 + 1 + 1 + 1) (List.take (0 + b.length + 1 + 1 + 1) (List.take (0 + b.length + 1 + 1) (List.take (0 + b.length + 1) (List.take (0 + b.length) b ++ [.sc (.int .u8 (IntKind.u8.wrap (JB IntKind.u64 (IntKind.u64.wrap n) (IntKind.i64.wrap (8 * 0)))))]) ++ [.sc (.int .u8 (IntKind.u8.wrap (JB IntKind.u64 (IntKind.u64.wrap n) (IntKind.i64.wrap (8 * IntKind.i64.wrap (0 + 1))))))]) ++ [.sc (.int .u8 (IntKind.u8.wrap (JB IntKind.u64 (IntKind.u64.wrap n) (IntKind.i64.wrap (8 * IntKind.i64.wrap (IntKind.i64.wrap (0 + 1) + 1))))))]) ++ [.sc (.int .u8 (IntKind.u8.wrap (JB IntKind.u64 (IntKind.u64.wrap n) (IntKind.i64.wrap (8 * IntKind.i64.wrap (IntKind.i64.wrap (IntKind.i64.wrap (0 + 1) + 1) + 1))))))]) ++ [.sc (.int .u8 (IntKind.u8.wrap (JB IntKind.u64 (IntKind.u64.wrap n) (IntKind.i64.wrap (8 * IntKind.i64.wrap (IntKind.i64.wrap (IntKind.i64.wrap (IntKind.i64.wrap (0 + 1) + 1) + 1) + 1))))))]) ++ [.sc (.int .u8 (IntKind.u8.wrap (JB IntKind.u64 (IntKind.u64.wrap n) (IntKind.i64.wrap (8 * IntKind.i64.wrap (IntKind.i64.wrap (IntKind.i64.wrap (IntKind.i64.wrap (IntKind.i64.wrap (0 + 1) + 1) + 1) + 1) + 1))))))]) ++ [.sc (.int .u8 (IntKind.u8.wrap (JB IntKind.u64 (IntKind.u64.wrap n) (IntKind.i64.wrap (8 * IntKind.i64.wrap (IntKind.i64.wrap (IntKind.i64.wrap (IntKind.i64.wrap (IntKind.i64.wrap (IntKind.i64.wrap (0 + 1) + 1) + 1) + 1) + 1) + 1))))))]) ++ [.sc (.int .u8 (IntKind.u8.wrap (JB IntKind.u64 (IntKind.u64.wrap n) (IntKind.i64.wrap (8 * IntKind.i64.wrap (IntKind.i64.wrap (IntKind.i64.wrap (IntKind.i64.wrap (IntKind.i64.wrap (IntKind.i64.wrap (IntKind.i64.wrap (0 + 1) + 1) + 1) + 1) + 1) + 1) + 1))))))])).length) (List.take (0 + b.length + 1 + 1 + 1 + 1 + 1 + 1 + 1 + 1) (List.take (0 + b.length + 1 + 1 + 1 + 1 + 1 + 1 + 1) (List.take (0 + b.length + 1 + 1 + 1 + 1 + 1 + 1) (List.take (0 + b.length + 1 + 1 + 1 + 1 + 1) (List.take (0 + b.length + 1 + 1 + 1 + 1) (List.take (0 + b.length + 1 + 1 + 1) (List.take (0 + b.length + 1 + 1) (List.take (0 + b.length + 1) (List.take (0 + b.length) b ++ [.sc (.int .u8 (IntKind.u8.wrap (JB IntKind.u64 (IntKind.u64.wrap n) (IntKind.i64.wrap (8 * 0)))))]) ++ [.sc (.int .u8 (IntKind.u8.wrap (JB IntKind.u64 (IntKind.u64.wrap n) (IntKind.i64.wrap (8 * IntKind.i64.wrap (0 + 1))))))]) ++ [.sc (.int .u8 (IntKind.u8.wrap (JB IntKind.u64 (IntKind.u64.wrap n) (IntKind.i64.wrap (8 * IntKind.i64.wrap (IntKind.i64.wrap (0 + 1) + 1))))))]) ++ [.sc (.int .u8 (IntKind.u8.wrap (JB IntKind.u64 (IntKind.u64.wrap n) (IntKind.i64.wrap (8 * IntKind.i64.wrap (IntKind.i64.wrap (IntKind.i64.wrap (0 + 1) + 1) + 1))))))]) ++ [.sc (.int .u8 (IntKind.u8.wrap (JB IntKind.u64 (IntKind.u64.wrap n) (IntKind.i64.wrap (8 * IntKind.i64.wrap (IntKind.i64.wrap (IntKind.i64.wrap (IntKind.i64.wrap (0 + 1) + 1) + 1) + 1))))))]) ++ [.sc (.int .u8 (IntKind.u8.wrap (JB IntKind.u64 (IntKind.u64.wrap n) (IntKind.i64.wrap (8 * IntKind.i64.wrap (IntKind.i64.wrap (IntKind.i64.wrap (IntKind.i64.wrap (IntKind.i64.wrap (0 + 1) + 1) + 1) + 1) + 1))))))]) ++ [.sc (.int .u8 (IntKind.u8.wrap (JB IntKind.u64 (IntKind.u64.wrap n) (IntKind.i64.wrap (8 * IntKind.i64.wrap (IntKind.i64.wrap (IntKind.i64.wrap (IntKind.i64.wrap (IntKind.i64.wrap (IntKind.i64.wrap (0 + 1) + 1) + 1) + 1) + 1) + 1))))))]) ++ [.sc (.int .u8 (IntKind.u8.wrap (JB IntKind.u64 (IntKind.u64.wrap n) (IntKind.i64.wrap (8 * IntKind.i64.wrap (IntKind.i64.wrap (IntKind.i64.wrap (IntKind.i64.wrap (IntKind.i64.wrap (IntKind.i64.wrap (IntKind.i64.wrap (0 + 1) + 1) + 1) + 1) + 1) + 1) + 1))))))])))) [] []) else none else none else none else none else none else none else none else none else none else none
theorem e97 (f : Nat) (b_z : Bool) (b_f : Bool) (b : List PV) (n : Int) (k : Res → Option Res) : JN tau F97 Try.f97 (Try.f97.body.get!) Jnv [.ro] 12 [.ro 5 b_z b_f b, .sc (.int .i64 n)] [] k = g97 f b_z b_f b n k := by kernel_rfl
theorem JzV (f : Nat) : Ji (Try.f97.body.get!) Jnv = [] := by kernel_rfl
theorem JzW (f : Nat) : ∀ q ∈ Ji (Try.f97.body.get!) Jnv, q.Ok tau Try.prog 0 := by
  rw [JzV f]; intro q hq; cases hq
theorem Jv1 : Try.prog.funcs[97]? = some Try.f97 := by kernel_rfl
theorem Jv2 : Try.f97.body = some (Try.f97.body.get!) := by kernel_rfl
theorem Jr8 : Enters Try.prog 97 := enters_of Jv1 (by kernel_rfl) Jv2
noncomputable def Jv3 : Fns := F0
theorem Jnw : JA tau Try.prog Jv3 := JJ
def Jij : An := (.seq .leaf (.seq .leaf .leaf))
noncomputable def JzX (f : Nat) (n : Int) (k : Res → Option Res) : Option Res := k (Res.mk (.ow 5 16 [] 0 1 none) [] [.vec false 5 false [.sc (.int .u8 (IntKind.u8.wrap n))]])
theorem JzY (f : Nat) (n : Int) (k : Res → Option Res) : JN tau Jv3 Try.f110 (Try.f110.body.get!) Jij [] 0 [.ro 5 true true [], .sc (.int .i64 n)] [] k = JzX f n k := by kernel_rfl
theorem Jv4 (f : Nat) : Ji (Try.f110.body.get!) Jij = [] := by kernel_rfl
theorem Jv5 (f : Nat) : ∀ q ∈ Ji (Try.f110.body.get!) Jij, q.Ok tau Try.prog 0 := by
  rw [Jv4 f]; intro q hq; cases hq
theorem JpR : Try.prog.funcs[110]? = some Try.f110 := by kernel_rfl
theorem JpS : Try.f110.body = some (Try.f110.body.get!) := by kernel_rfl
theorem Jv6 : Enters Try.prog 110 := enters_of JpR (by kernel_rfl) JpS
noncomputable def JpT : Fns := F0
theorem Jk0 : JA tau Try.prog JpT := JJ
def Jdx : An := (.seq .leaf (.seq .leaf .leaf))
noncomputable def Jk1 (f : Nat) (nl : Bool) (l : List PV) (m : Nat) (n : Int) (k : Res → Option Res) : Option Res := bif Jj (m + 1) 1 && true then k (Res.mk (.ow 5 16 [] 0 (m + 1) none) [.dead] [.vec false 5 (nl && false) (List.take m l ++ [.sc (.int .u8 (IntKind.u8.wrap n))])]) else none
theorem Jv7 (f : Nat) (nl : Bool) (l : List PV) (m : Nat) (n : Int) (k : Res → Option Res) : JN tau JpT Try.f110 (Try.f110.body.get!) Jdx [] 0 [.ow 5 0 [] 0 m none, .sc (.int .i64 n)] [.vec false 5 nl l] k = Jk1 f nl l m n k := by kernel_rfl
theorem Jr9 (f : Nat) : Ji (Try.f110.body.get!) Jdx = [] := by kernel_rfl
theorem Jsa (f : Nat) : ∀ q ∈ Ji (Try.f110.body.get!) Jdx, q.Ok tau Try.prog 1 := by
  rw [Jr9 f]; intro q hq; cases hq
theorem Jsb : Try.prog.funcs[110]? = some Try.f110 := by kernel_rfl
theorem Jsc : Try.f110.body = some (Try.f110.body.get!) := by kernel_rfl
noncomputable def Jv8 : Fns := F0
theorem Jnx : JA tau Try.prog Jv8 := JJ
def Jny : Nm := [(0, .own), (1, .any), (5, .any)]
def Jsd : An := (.seq (.seq .leaf (.cond .leaf .leaf)) (.seq (.block none .leaf) .leaf))
def Jik : An := (.seq .leaf (.seq (.seq .leaf (.block none (.loop Jny Jsd))) (.seq .leaf .leaf)))
noncomputable def Jv9 (f : Nat) (n : Int) (k : Res → Option Res) : Option Res := k (Res.mk (.ow 5 16 [] 0 8 none) [] [.vec false 5 false [.sc (.int .u8 (IntKind.u8.wrap (JB IntKind.u64 (IntKind.u64.wrap n) (IntKind.u64.wrap (8 * IntKind.u64.wrap 0))))), .sc (.int .u8 (IntKind.u8.wrap (JB IntKind.u64 (IntKind.u64.wrap n) (IntKind.u64.wrap (8 * IntKind.u64.wrap (IntKind.i64.wrap (0 + 1))))))), .sc (.int .u8 (IntKind.u8.wrap (JB IntKind.u64 (IntKind.u64.wrap n) (IntKind.u64.wrap (8 * IntKind.u64.wrap (IntKind.i64.wrap (IntKind.i64.wrap (0 + 1) + 1))))))), .sc (.int .u8 (IntKind.u8.wrap (JB IntKind.u64 (IntKind.u64.wrap n) (IntKind.u64.wrap (8 * IntKind.u64.wrap (IntKind.i64.wrap (IntKind.i64.wrap (IntKind.i64.wrap (0 + 1) + 1) + 1))))))), .sc (.int .u8 (IntKind.u8.wrap (JB IntKind.u64 (IntKind.u64.wrap n) (IntKind.u64.wrap (8 * IntKind.u64.wrap (IntKind.i64.wrap (IntKind.i64.wrap (IntKind.i64.wrap (IntKind.i64.wrap (0 + 1) + 1) + 1) + 1))))))), .sc (.int .u8 (IntKind.u8.wrap (JB IntKind.u64 (IntKind.u64.wrap n) (IntKind.u64.wrap (8 * IntKind.u64.wrap (IntKind.i64.wrap (IntKind.i64.wrap (IntKind.i64.wrap (IntKind.i64.wrap (IntKind.i64.wrap (0 + 1) + 1) + 1) + 1) + 1))))))), .sc (.int .u8 (IntKind.u8.wrap (JB IntKind.u64 (IntKind.u64.wrap n) (IntKind.u64.wrap (8 * IntKind.u64.wrap (IntKind.i64.wrap (IntKind.i64.wrap (IntKind.i64.wrap (IntKind.i64.wrap (IntKind.i64.wrap (IntKind.i64.wrap (0 + 1) + 1) + 1) + 1) + 1) + 1))))))), .sc (.int .u8 (IntKind.u8.wrap (JB IntKind.u64 (IntKind.u64.wrap n) (IntKind.u64.wrap (8 * IntKind.u64.wrap (IntKind.i64.wrap (IntKind.i64.wrap (IntKind.i64.wrap (IntKind.i64.wrap (IntKind.i64.wrap (IntKind.i64.wrap (IntKind.i64.wrap (0 + 1) + 1) + 1) + 1) + 1) + 1) + 1)))))))]])
theorem JzZ (f : Nat) (n : Int) (k : Res → Option Res) : JN tau Jv8 Try.f108 (Try.f108.body.get!) Jik [] 12 [.ro 5 true true [], .sc (.int .i64 n)] [] k = Jv9 f n k := by kernel_rfl
theorem Jwa (f : Nat) : Ji (Try.f108.body.get!) Jik = [] := by kernel_rfl
theorem Jwb (f : Nat) : ∀ q ∈ Ji (Try.f108.body.get!) Jik, q.Ok tau Try.prog 0 := by
  rw [Jwa f]; intro q hq; cases hq
theorem JpU : Try.prog.funcs[108]? = some Try.f108 := by kernel_rfl
theorem JpV : Try.f108.body = some (Try.f108.body.get!) := by kernel_rfl
theorem JpW : Enters Try.prog 108 := enters_of JpU (by kernel_rfl) JpV
noncomputable def JpX : Fns := F0
theorem Jk2 : JA tau Try.prog JpX := JJ
def Jk3 : Nm := [(0, .own), (1, .any), (5, .any)]
def Jnz : An := (.seq (.seq .leaf (.cond .leaf .leaf)) (.seq (.block none .leaf) .leaf))
def Jdy : An := (.seq .leaf (.seq (.seq .leaf (.block none (.loop Jk3 Jnz))) (.seq .leaf .leaf)))
noncomputable def Jk4 (f : Nat) (nl : Bool) (l : List PV) (m : Nat) (n : Int) (k : Res → Option Res) : Option Res := bif Jj (m + 1) 1 && true then bif Jj (m + 1 + 1) 1 && true then bif Jj (m + 1 + 1 + 1) 1 && true then bif Jj (m + 1 + 1 + 1 + 1) 1 && true then bif Jj (m + 1 + 1 + 1 + 1 + 1) 1 && true then bif Jj (m + 1 + 1 + 1 + 1 + 1 + 1) 1 && true then bif Jj (m + 1 + 1 + 1 + 1 + 1 + 1 + 1) 1 && true then bif Jj (m + 1 + 1 + 1 + 1 + 1 + 1 + 1 + 1) 1 && true then k (Res.mk (.ow 5 16 [] 0 (m + 1 + 1 + 1 + 1 + 1 + 1 + 1 + 1) none) [.dead] [.vec false 5 (nl && false && false && false && false && false && false && false && false) (List.take (m + 1 + 1 + 1 + 1 + 1 + 1 + 1) (List.take (m + 1 + 1 + 1 + 1 + 1 + 1) (List.take (m + 1 + 1 + 1 + 1 + 1) (List.take (m + 1 + 1 + 1 + 1) (List.take (m + 1 + 1 + 1) (List.take (m + 1 + 1) (List.take (m + 1) (List.take m l ++ [.sc (.int .u8 (IntKind.u8.wrap (JB IntKind.u64 (IntKind.u64.wrap n) (IntKind.u64.wrap (8 * IntKind.u64.wrap 0)))))]) ++ [.sc (.int .u8 (IntKind.u8.wrap (JB IntKind.u64 (IntKind.u64.wrap n) (IntKind.u64.wrap (8 * IntKind.u64.wrap (IntKind.i64.wrap (0 + 1)))))))]) ++ [.sc (.int .u8 (IntKind.u8.wrap (JB IntKind.u64 (IntKind.u64.wrap n) (IntKind.u64.wrap (8 * IntKind.u64.wrap (IntKind.i64.wrap (IntKind.i64.wrap (0 + 1) + 1)))))))]) ++ [.sc (.int .u8 (IntKind.u8.wrap (JB IntKind.u64 (IntKind.u64.wrap n) (IntKind.u64.wrap (8 * IntKind.u64.wrap (IntKind.i64.wrap (IntKind.i64.wrap (IntKind.i64.wrap (0 + 1) + 1) + 1)))))))]) ++ [.sc (.int .u8 (IntKind.u8.wrap (JB IntKind.u64 (IntKind.u64.wrap n) (IntKind.u64.wrap (8 * IntKind.u64.wrap (IntKind.i64.wrap (IntKind.i64.wrap (IntKind.i64.wrap (IntKind.i64.wrap (0 + 1) + 1) + 1) + 1)))))))]) ++ [.sc (.int .u8 (IntKind.u8.wrap (JB IntKind.u64 (IntKind.u64.wrap n) (IntKind.u64.wrap (8 * IntKind.u64.wrap (IntKind.i64.wrap (IntKind.i64.wrap (IntKind.i64.wrap (IntKind.i64.wrap (IntKind.i64.wrap (0 + 1) + 1) + 1) + 1) + 1)))))))]) ++ [.sc (.int .u8 (IntKind.u8.wrap (JB IntKind.u64 (IntKind.u64.wrap n) (IntKind.u64.wrap (8 * IntKind.u64.wrap (IntKind.i64.wrap (IntKind.i64.wrap (IntKind.i64.wrap (IntKind.i64.wrap (IntKind.i64.wrap (IntKind.i64.wrap (0 + 1) + 1) + 1) + 1) + 1) + 1)))))))]) ++ [.sc (.int .u8 (IntKind.u8.wrap (JB IntKind.u64 (IntKind.u64.wrap n) (IntKind.u64.wrap (8 * IntKind.u64.wrap (IntKind.i64.wrap (IntKind.i64.wrap (IntKind.i64.wrap (IntKind.i64.wrap (IntKind.i64.wrap (IntKind.i64.wrap (IntKind.i64.wrap (0 + 1) + 1) + 1) + 1) + 1) + 1) + 1)))))))])]) else none else none else none else none else none else none else none else none
theorem Jwc (f : Nat) (nl : Bool) (l : List PV) (m : Nat) (n : Int) (k : Res → Option Res) : JN tau JpX Try.f108 (Try.f108.body.get!) Jdy [] 12 [.ow 5 0 [] 0 m none, .sc (.int .i64 n)] [.vec false 5 nl l] k = Jk4 f nl l m n k := by kernel_rfl
theorem Jse (f : Nat) : Ji (Try.f108.body.get!) Jdy = [] := by kernel_rfl
theorem Jsf (f : Nat) : ∀ q ∈ Ji (Try.f108.body.get!) Jdy, q.Ok tau Try.prog 1 := by
  rw [Jse f]; intro q hq; cases hq
theorem Jsg : Try.prog.funcs[108]? = some Try.f108 := by kernel_rfl
theorem Jsh : Try.f108.body = some (Try.f108.body.get!) := by kernel_rfl
noncomputable def JpY : Fns := F0
theorem Jk5 : JA tau Try.prog JpY := JJ
def Jdz : An := (.seq .leaf (.seq (.seq .leaf (.cond .leaf .leaf)) (.seq .leaf .leaf)))
noncomputable def Jk6 (f : Nat) (nl : Bool) (l : List PV) (m : Nat) (s : ByteArray) (k : Res → Option Res) : Option Res := bif decide (zi s.size > 65535) then bif decide (65535 ≤ s.size) && true then bif Jj (m + 2) 1 && true then bif Jj (m + 2 + (Jp (s.extract 0 65535)).length) 1 && true then k (Res.mk (.ow 5 16 [] 0 (m + 2 + (Jp (s.extract 0 65535)).length) none) [.dead] [.vec false 5 (nl && false && (Jp (s.extract 0 65535)).isEmpty) (List.take (m + 2) (List.take m l ++ [.sc (.int .u8 (IntKind.u8.wrap (zi (s.extract 0 65535).size))), .sc (.int .u8 (IntKind.u8.wrap (JB IntKind.i64 (zi (s.extract 0 65535).size) 8)))]) ++ Jp (s.extract 0 65535))]) else none else none else none else bif Jj (m + 2) 1 && true then bif Jj (m + 2 + (Jp s).length) 1 && true then k (Res.mk (.ow 5 16 [] 0 (m + 2 + (Jp s).length) none) [.dead] [.vec false 5 (nl && false && (Jp s).isEmpty) (List.take (m + 2) (List.take m l ++ [.sc (.int .u8 (IntKind.u8.wrap (zi s.size))), .sc (.int .u8 (IntKind.u8.wrap (JB IntKind.i64 (zi s.size) 8)))]) ++ Jp s)]) else none else none
theorem Jwd (f : Nat) (nl : Bool) (l : List PV) (m : Nat) (s : ByteArray) (k : Res → Option Res) : JN tau JpY Try.f109 (Try.f109.body.get!) Jdz [] 0 [.ow 5 0 [] 0 m none, .sc (.string s)] [.vec false 5 nl l] k = Jk6 f nl l m s k := by kernel_rfl
theorem Jsi (f : Nat) : Ji (Try.f109.body.get!) Jdz = [] := by kernel_rfl
theorem Jsj (f : Nat) : ∀ q ∈ Ji (Try.f109.body.get!) Jdz, q.Ok tau Try.prog 1 := by
  rw [Jsi f]; intro q hq; cases hq
theorem Jk7 : Try.prog.funcs[109]? = some Try.f109 := by kernel_rfl
theorem Jk8 : Try.f109.body = some (Try.f109.body.get!) := by kernel_rfl
theorem Jsk : Enters Try.prog 109 := enters_of Jk7 (by kernel_rfl) Jk8
-- FN code.Byte | code.Text | code.Int | ref1.Byte | ref1.Int | ref1.Text
def ib (n i : Int) : Int := IntKind.u8.wrap (JB .u64 (IntKind.u64.wrap n) (8 * i))
def Jil (n : Int) : List Int := [ib n 0, ib n 1, ib n 2, ib n 3, ib n 4, ib n 5, ib n 6, ib n 7]
noncomputable def J7 : Int → List Int := hid Jil
theorem Wf (n : Int) : J7 n = Jil n := by rw [J7, hid_eq]
@[simp] theorem Xc (n : Int) : (J7 n).length = 8 := by rw [Wf]; rfl
/-- a text's bytes -/
def JnA (s : ByteArray) : List Int := s.data.toList.map fun b => (b.toNat : Int)
noncomputable def bsI : ByteArray → List Int := hid JnA
theorem Jbh (s : ByteArray) : bsI s = JnA s := by rw [bsI, hid_eq]
theorem Wd (s : ByteArray) : Jp s = pu .u8 (bsI s) := by rw [Jbh]; simp [Jp, pu, JnA]
@[simp] theorem Z8 (s : ByteArray) : (bsI s).length = s.size := by rw [Jbh]; simp [JnA]
theorem Jsl (s : ByteArray) : ∀ x ∈ bsI s, 0 ≤ x ∧ x < 256 := by
  intro x hx
  rw [Jbh] at hx
  obtain ⟨b, _, rfl⟩ := List.mem_map.1 hx
  have := b.toNat_lt
  omega
noncomputable def X2 (s : ByteArray) : List Int := [IntKind.u8.wrap (zi s.size), IntKind.u8.wrap (JB .i64 (zi s.size) 8)] ++ bsI s
noncomputable def Qj : ByteArray → List Int := hid X2
theorem Q5 (s : ByteArray) : Qj s = X2 s := by rw [Qj, hid_eq]
@[simp] theorem VR (s : ByteArray) : (Qj s).length = s.size + 2 := by rw [Q5]; simp [X2]
theorem ZD (x : Int) : 0 ≤ IntKind.u8.wrap x ∧ IntKind.u8.wrap x < 256 := by rw [WS]; omega
theorem X3 (n : Int) : ∀ x ∈ J7 n, 0 ≤ x ∧ x < 256 := by
  rw [Wf]; intro x hx
  simp only [Jil, List.mem_cons, List.not_mem_nil, or_false] at hx
  rcases hx with h | h | h | h | h | h | h | h <;> (rw [h]; exact ZD _)
theorem Jfd (s : ByteArray) : ∀ x ∈ Qj s, 0 ≤ x ∧ x < 256 := by
  rw [Q5]; intro x hx
  rcases List.mem_append.1 hx with hx | hx
  · simp only [List.mem_cons, List.not_mem_nil, or_false] at hx
    rcases hx with h | h <;> (rw [h]; exact ZD _)
  · exact Jsl s x hx
theorem JnB (f : Bool) (b : List PV) (n : Int) (k : Res → Option Res) : g97 0 true f b n k = k ⟨.ro 5 false false (pu .u8 (J7 n)), [], []⟩ := by
  rw [Wf]; kernel_rfl
theorem Jwe (f : Bool) (b : List PV) (hb : b.length ≤ 1000000000) (n : Int) (k : Res → Option Res) : g97 0 false f b n k = k ⟨.ro 5 false false (b ++ pu .u8 (J7 n)), [], []⟩ := by
  rw [Wf]
  unfold g97
  refine (Jx rfl).trans ?_
  repeat (refine (Jb (by simp [Jj]; omega)).trans ?_)
  repeat rw [List.take_of_length_le (by simp <;> omega)]
  simp only [List.nil_append, List.append_assoc]
  rfl
noncomputable def JdA : List PV → List Ent → (Res → Option Res) → Option Res
  | [.ro 5 z f b, .sc (.int .i64 n)], [], k => bif slB z b then k ⟨.ro 5 false false (b ++ pu .u8 (J7 n)), [], []⟩ else none
  | _, _, _ => none
noncomputable def Jz0 : Sig := { own := [], run := JdA }
theorem Jwf : Jk tau Try.prog 97 Jz0 := Jk.mk' fun xs es k res hl hr => by
  change JdA xs es k = some res at hr
  unfold JdA at hr
  split at hr
  · rename_i z f b n
    obtain ⟨hc, hr2⟩ := JL hr
    clear hr
    obtain ⟨h1, h2⟩ := Q3.1 hc
    have hg : g97 0 z f b n k = some res := by
      cases z with
      | true => obtain rfl := h1 rfl; rw [JnB]; exact hr2
      | false => rw [Jwe f b h2]; exact hr2
    exact Qp Js Jr6 Jt Jv1 Jv2 Jnv [.ro] 0 12 (JzW 0) hl rfl ((e97 0 z f b n k).trans hg)
  · cases hr
theorem Jfe (s : ByteArray) : s.extract 0 s.size = s := by
  apply ByteArray.ext
  simp [ByteArray.data_extract]
noncomputable def VS : List PV → List Ent → (Res → Option Res) → Option Res
  | [.ro 5 true true [], .sc (.int .i64 n)], [], k => k ⟨.ow 5 16 [] 0 1 none, [], [.vec false 5 false (pu .u8 [IntKind.u8.wrap n])]⟩
  | [.ow 5 0 [] 0 m none, .sc (.int .i64 n)], [.vec false 5 nl l], k => bif Nat.beq m l.length && Nat.ble l.length 1000000000 then k ⟨.ow 5 16 [] 0 (m + 1) none, [.dead], [.vec false 5 false (l ++ pu .u8 [IntKind.u8.wrap n])]⟩ else none
  | _, _, _ => none
noncomputable def Jwg : Sig := { own := [true], run := VS }
theorem Jsm : Jk tau Try.prog 110 Jwg := Jk.mk' fun xs es k res hl hr => by
  change VS xs es k = some res at hr
  unfold VS at hr
  split at hr
  · rename_i n
    exact Qp Js Jnw Jt JpR JpS Jij [] 0 0 (Jv5 0) hl rfl ((JzY 0 n k).trans hr)
  · rename_i m n nl l
    obtain ⟨hc, hr⟩ := JL hr
    rw [Bool.and_eq_true, Nat.beq_eq, Nat.ble_eq] at hc
    obtain ⟨rfl, hc⟩ := hc
    have hg : Jk1 0 nl l l.length n k = some res := by
      unfold Jk1
      rw [Jb (by simp [Jj]; omega), List.take_length, Bool.and_false]
      exact hr
    exact Qp Js Jk0 Jt Jsb Jsc Jdx [] 1 0 (Jsa 0) hl rfl ((Jv7 0 nl l l.length n k).trans hg)
  · cases hr
noncomputable def VT : List PV → List Ent → (Res → Option Res) → Option Res
  | [.ro 5 true true [], .sc (.int .i64 n)], [], k => k ⟨.ow 5 16 [] 0 8 none, [], [.vec false 5 false (pu .u8 (J7 n))]⟩
  | [.ow 5 0 [] 0 m none, .sc (.int .i64 n)], [.vec false 5 nl l], k => bif Nat.beq m l.length && Nat.ble l.length 1000000000 then k ⟨.ow 5 16 [] 0 (m + 8) none, [.dead], [.vec false 5 false (l ++ pu .u8 (J7 n))]⟩ else none
  | _, _, _ => none
noncomputable def Jwh : Sig := { own := [true], run := VT }
theorem Jk9 (n : Int) (k : Res → Option Res) : Jv9 0 n k = k ⟨.ow 5 16 [] 0 8 none, [], [.vec false 5 false (pu .u8 (J7 n))]⟩ := by
  rw [Wf]; kernel_rfl
theorem Jla (nl : Bool) (l : List PV) (hl : l.length ≤ 1000000000) (n : Int) (k : Res → Option Res) : Jk4 0 nl l l.length n k = k ⟨.ow 5 16 [] 0 (l.length + 8) none, [.dead], [.vec false 5 false (l ++ pu .u8 (J7 n))]⟩ := by
  rw [Wf]
  unfold Jk4
  repeat (refine (Jb (by simp [Jj]; omega)).trans ?_)
  repeat rw [List.take_of_length_le (by simp <;> omega)]
  simp only [Bool.and_false, List.append_assoc]
  rfl
theorem Jlb : Jk tau Try.prog 108 Jwh := Jk.mk' fun xs es k res hl hr => by
  change VT xs es k = some res at hr
  unfold VT at hr
  split at hr
  · rename_i n
    exact Qp Js Jnx Jt JpU JpV Jik [] 0 12 (Jwb 0) hl rfl ((JzZ 0 n k).trans ((Jk9 n k).trans hr))
  · rename_i m n nl l
    obtain ⟨hc, hr⟩ := JL hr
    rw [Bool.and_eq_true, Nat.beq_eq, Nat.ble_eq] at hc
    obtain ⟨rfl, hc⟩ := hc
    exact Qp Js Jk2 Jt Jsg Jsh Jdy [] 1 12 (Jsf 0) hl rfl ((Jwc 0 nl l l.length n k).trans ((Jla nl l hc n k).trans hr))
  · cases hr
noncomputable def VU : List PV → List Ent → (Res → Option Res) → Option Res
  | [.ow 5 0 [] 0 m none, .sc (.string s)], [.vec false 5 nl l], k => bif Nat.beq m l.length && Nat.ble l.length 1000000000 && Nat.ble s.size 65535 then k ⟨.ow 5 16 [] 0 (m + (s.size + 2)) none, [.dead], [.vec false 5 false (l ++ pu .u8 (Qj s))]⟩ else none
  | _, _, _ => none
noncomputable def Jwi : Sig := { own := [true], run := VU }
theorem Jsn : Jk tau Try.prog 109 Jwi := Jk.mk' fun xs es k res hl hr => by
  change VU xs es k = some res at hr
  unfold VU at hr
  split at hr
  · rename_i m s nl l
    obtain ⟨hc, hr⟩ := JL hr
    rw [Bool.and_eq_true, Bool.and_eq_true, Nat.beq_eq, Nat.ble_eq, Nat.ble_eq] at hc
    obtain ⟨⟨rfl, hc⟩, hs⟩ := hc
    have hg : Jk6 0 nl l l.length s k = some res := by
      unfold Jk6
      have hob : (Jp s).length = s.size := by rw [Wd]; simp
      rw [Jx (by simp only [zi, decide_eq_false_iff_not]; omega), Jb (by simp [Jj]; omega), Jb (by simp [Jj, hob]; omega), List.take_length, List.take_of_length_le (by simp), hob, Bool.and_false, Bool.false_and]
      rw [Q5, X2] at hr
      rw [Wd, show l.length + 2 + s.size = l.length + (s.size + 2) from by omega]
      simpa [pu] using hr
    exact Qp Js Jk5 Jt Jk7 Jk8 Jdz [] 1 0 (Jsj 0) hl rfl ((Jwd 0 nl l l.length s k).trans hg)
  · cases hr
theorem G9 (n : Int) (i : Nat) (h : 8 * i < 64) : ib n i = (n % 18446744073709551616) / (2 ^ (8 * i)) % 256 := by
  unfold ib JB
  rw [WS, QY]
  have : min (8 * (i : Int)).toNat IntKind.u64.bits = 8 * i := by
    show min _ 64 = _
    omega
  rw [this, Int.fdiv_eq_ediv_of_nonneg _ (Int.pow_nonneg (by decide))]
theorem JjD (n : Int) : Xl (J7 n) = n % 18446744073709551616 := by
  rw [Wf]
  simp only [Jil, Xl]
  have e0 : ib n 0 = n % 18446744073709551616 / 2 ^ (8 * 0) % 256 := G9 n 0 (by decide)
  have e1 : ib n 1 = n % 18446744073709551616 / 2 ^ (8 * 1) % 256 := G9 n 1 (by decide)
  have e2 : ib n 2 = n % 18446744073709551616 / 2 ^ (8 * 2) % 256 := G9 n 2 (by decide)
  have e3 : ib n 3 = n % 18446744073709551616 / 2 ^ (8 * 3) % 256 := G9 n 3 (by decide)
  have e4 : ib n 4 = n % 18446744073709551616 / 2 ^ (8 * 4) % 256 := G9 n 4 (by decide)
  have e5 : ib n 5 = n % 18446744073709551616 / 2 ^ (8 * 5) % 256 := G9 n 5 (by decide)
  have e6 : ib n 6 = n % 18446744073709551616 / 2 ^ (8 * 6) % 256 := G9 n 6 (by decide)
  have e7 : ib n 7 = n % 18446744073709551616 / 2 ^ (8 * 7) % 256 := G9 n 7 (by decide)
  simp only [Nat.reduceMul, Int.reducePow] at e0 e1 e2 e3 e4 e5 e6 e7
  omega
theorem JbN (n : Int) : IntKind.i64.wrap (n % 18446744073709551616) = IntKind.i64.wrap n := by
  have h : n % 18446744073709551616 % 18446744073709551616 = n % 18446744073709551616 := Int.emod_emod_of_dvd n (Int.dvd_refl _)
  show (if _ then _ else _) = (if _ then _ else _)
  have e : ∀ x : Int, x % 2 ^ IntKind.i64.bits = x % 18446744073709551616 := fun x => rfl
  simp only [e, h]
def i64B (n : Int) : Bool := decide (-9223372036854775808 ≤ n) && decide (n < 9223372036854775808)
theorem JdB {n : Int} (h : i64B n = true) : IntKind.i64.wrap (n % 18446744073709551616) = n := by
  simp only [i64B, Bool.and_eq_true, decide_eq_true_eq] at h
  have e : IntKind.i64.wrap (n % 18446744073709551616) = IntKind.i64.wrap n := JbN n
  rw [e]; exact wrap_i64 h.1 h.2
theorem Jlc (l : List Int) (r : List PV) {n : Nat} (h : l.length = n) : QC n ⟨pu .u8 l ++ r, 0⟩ = pu .u8 l := by
  unfold QC YL
  have : Nat.ble n (pu .u8 l ++ r).length = true := (Nat.ble_eq ▸ (by simp; omega) : Nat.ble n (pu .u8 l ++ r).length = true)
  rw [this]
  show List.take n (pu .u8 l ++ r) = _
  rw [List.take_append_of_le_length (by simp; omega), List.take_of_length_le (by simp; omega)]
theorem VV (l : List Int) (r : List PV) {n : Nat} (h : l.length = n) : Qg n ⟨pu .u8 l ++ r, 0⟩ = ⟨r, 0⟩ := by
  unfold Qg YL
  have : Nat.ble n (pu .u8 l ++ r).length = true := (Nat.ble_eq ▸ (by simp; omega) : Nat.ble n (pu .u8 l ++ r).length = true)
  rw [this]
  show RS.mk (List.drop n (pu .u8 l ++ r)) 0 = _
  rw [List.drop_append_of_le_length (by simp; omega), List.drop_of_length_le (by simp; omega), List.nil_append]
theorem JdC (l : List Int) (r : List PV) {n : Nat} (h : l.length = n) : Wk n ⟨pu .u8 l ++ r, 0⟩ = IntKind.i64.wrap (Xl l) := by
  unfold Wk; rw [Jlc l r h, Qf]
theorem X4 {n : Int} (h : i64B n = true) (r : List PV) : JC 8 ⟨pu .u8 (J7 n) ++ r, 0⟩ = n := by
  rw [W2, JdC _ _ (Xc n), JjD, JdB h]
theorem QH (n : Int) (r : List PV) : Jc 8 ⟨pu .u8 (J7 n) ++ r, 0⟩ = ⟨r, 0⟩ := by
  rw [WT, VV _ _ (Xc n)]
theorem Jbi (n : Int) (r : List PV) : JC 1 ⟨pu .u8 [IntKind.u8.wrap n] ++ r, 0⟩ = IntKind.u8.wrap n := by
  rw [W2, JdC [IntKind.u8.wrap n] r (n := 1) rfl]
  have := ZD n
  simp only [Xl]
  rw [wrap_i64 (by omega) (by omega)]; omega
theorem ZE (n : Int) (r : List PV) : Jc 1 ⟨pu .u8 [IntKind.u8.wrap n] ++ r, 0⟩ = ⟨r, 0⟩ := by
  rw [WT, VV [IntKind.u8.wrap n] r (n := 1) rfl]
theorem JnC (l : List PV) (h : byB l = true) : Jp (⟨(Jl l).toArray⟩ : ByteArray) = l := by
  simp only [Jp]
  show (Jl l).map _ = l
  induction l with
  | nil => rfl
  | cons p ps ih =>
    have h1 : (p.isInt .u8 && (decide (0 ≤ p.int) && decide (p.int < 256))) = true ∧ byB ps = true := by
      have : byB (p :: ps) = ((p.isInt .u8 && (decide (0 ≤ p.int) && decide (p.int < 256))) && byB ps) := rfl
      rw [this, Bool.and_eq_true] at h; exact h
    simp only [Jl, List.map_cons, ih h1.2]
    congr 1
    have h2 := h1.1
    simp only [Bool.and_eq_true, decide_eq_true_eq] at h2
    obtain ⟨h2, h3, h4⟩ := h2
    match p, h2 with
    | .sc (.int .u8 x), _ =>
      simp only [PV.int] at h3 h4 ⊢
      congr 2
      simp [UInt8.toNat_ofNat]
      omega
    all_goals skip
theorem Jim {t : ByteArray} (h : t.size ≤ 65535) (r : List PV) : JS ⟨pu .u8 (Qj t) ++ r, 0⟩ = t ∧ J5 ⟨pu .u8 (Qj t) ++ r, 0⟩ = ⟨r, 0⟩ := by
  have hn : ∀ r, Wk 2 ⟨pu .u8 [IntKind.u8.wrap (zi t.size), IntKind.u8.wrap (JB .i64 (zi t.size) 8)] ++ r, 0⟩ = (t.size : Int) := by
    intro r
    rw [JdC [IntKind.u8.wrap (zi t.size), IntKind.u8.wrap (JB .i64 (zi t.size) 8)] r (n := 2) rfl]
    simp only [Xl, JB, WS, zi]
    have : min (8 : Int).toNat IntKind.i64.bits = 8 := by decide
    rw [this, Int.fdiv_eq_ediv_of_nonneg _ (by decide), wrap_i64 (by omega) (by omega)]
    omega
  have hs : ∀ r, Qg 2 ⟨pu .u8 [IntKind.u8.wrap (zi t.size), IntKind.u8.wrap (JB .i64 (zi t.size) 8)] ++ r, 0⟩ = ⟨r, 0⟩ := fun r => VV _ _ rfl
  have he : pu .u8 (Qj t) ++ r = pu .u8 [IntKind.u8.wrap (zi t.size), IntKind.u8.wrap (JB .i64 (zi t.size) 8)] ++ (pu .u8 (bsI t) ++ r) := by
    rw [Q5, X2, JR, List.append_assoc]
  rw [Jar, Jaq, he]
  unfold JeR JeQ
  rw [hn, hs, Int.toNat_natCast, Jlc _ _ (Z8 t), VV _ _ (Z8 t)]
  refine ⟨?_, rfl⟩
  rw [← Wd]
  apply ByteArray.ext
  apply Array.ext'
  show Jl (Jp t) = t.data.toList
  simp only [Jp]
  generalize t.data.toList = l
  induction l with
  | nil => rfl
  | cons x l ih =>
    simp only [List.map_cons, Jl, ih, PV.int]
    congr 1
    simp
theorem Jld : ∀ (l : List Int) (r : List PV), (∀ x ∈ l, 0 ≤ x ∧ x < 256) → Gw l.length ⟨pu .u8 l ++ r, 0⟩ = ⟨r, 0⟩ ∧ Gx l.length ⟨pu .u8 l ++ r, 0⟩ = l
  | [], r, _ => ⟨rfl, rfl⟩
  | x :: l, r, h => by
      have h2 := Jld l r fun y hy => h y (List.mem_cons_of_mem _ hy)
      have hx := h x List.mem_cons_self
      have e1 : Qg 1 ⟨pu .u8 (x :: l) ++ r, 0⟩ = ⟨pu .u8 l ++ r, 0⟩ := by
        rw [show pu .u8 (x :: l) ++ r = pu .u8 [x] ++ (pu .u8 l ++ r) from rfl, VV [x] _ (n := 1) rfl]
      have e2 : Wk 1 ⟨pu .u8 (x :: l) ++ r, 0⟩ = x := by
        rw [show pu .u8 (x :: l) ++ r = pu .u8 [x] ++ (pu .u8 l ++ r) from rfl, JdC [x] _ (n := 1) rfl]
        simp only [Xl]
        rw [wrap_i64 (by omega) (by omega)]; omega
      simp only [List.length_cons, Gw, Gx, e1, e2, h2.1, h2.2, true_and]
      rw [WS]; congr 1; omega
structure MsgOk (ns : List Int) (ts : List ByteArray) (h : List Int) : Prop where
  len : ns.length = 12
  num : ∀ n, n < 12 → i64B (ns.getD n 0) = true
  cnt : ts.length ≤ 4
  txt : ∀ t ∈ ts, t.size ≤ 65535
  sum : h.length = 32
  sumB : ∀ x ∈ h, 0 ≤ x ∧ x < 256
theorem Jz1 {τ : Tab} {m : Nat} {a b : TypeId} {pvs : List PV} (h : TyL τ m [a, b] pvs) : ∃ p q, pvs = [p, q] ∧ Ty τ m a p ∧ Ty τ m b q := by
  match pvs, h with
  | [p, q], h => exact ⟨p, q, rfl, h.1, h.2.1⟩
theorem Jz2 {τ : Tab} {m : Nat} {a b c : TypeId} {pvs : List PV} (h : TyL τ m [a, b, c] pvs) : ∃ p q r, pvs = [p, q, r] ∧ Ty τ m a p ∧ Ty τ m b q ∧ Ty τ m c r := by
  match pvs, h with
  | [p, q, r], h => exact ⟨p, q, r, rfl, h.1, h.2.1, h.2.2.1⟩
-- FN law9.Keys | law16.Good | law16.Few
noncomputable def kb : Nat → List PV → List PV := hid fun i b => pu .u8 [107, 48 + i] ++ b.take 60
theorem Jle (i : Nat) (b : List PV) : kb i b = pu .u8 [107, 48 + i] ++ b.take 60 := by rw [kb, hid_eq]
theorem Jin (i : Nat) {b : List PV} (h : Jd .u8 b = true) : kOk (kb i b) = true := by
  rw [Jle]; unfold kOk
  have h2 : Jd .u8 (b.take 60) = true := by
    rw [Qb h, W1]; simp
  rw [QG, h2, JF]
  simp; omega
noncomputable def JgP : List PV → List Ent → (Res → Option Res) → Option Res
  | [.ro 5 z f b], [], k => k ⟨.st 31 [.ro 5 false false (kb 0 b), .ro 5 false false (kb 1 b), .ro 5 false false (kb 2 b)], [], []⟩
  | _, _, _ => none
noncomputable def Jso : Sig := { own := [], run := JgP }
theorem Jwj (n m : Nat) : (J3 (zi n) m).toNat = min n m := by unfold J3; simp only [zi]; split <;> omega
theorem JpZ : Jk tau Try.prog 21 Jso := Jy5.of fun xs es k res hr => by
  change JgP xs es k = some res at hr
  unfold JgP at hr
  split at hr
  · rename_i z f b
    show g21 0 z f b k = some res
    have hm : (J3 (zi b.length) 60).toNat = min b.length 60 := Jwj b.length 60
    have ht : List.take (min b.length 60) b = b.take 60 := by rw [Nat.min_comm, List.take_eq_take_iff]; omega
    have hl : (b.take 60).length ≤ 60 := by simp; omega
    have e : ∀ x y : Int, List.take (2 + (b.take 60).length) (.sc (.int .u8 x) :: .sc (.int .u8 y) :: id (b.take 60)) = .sc (.int .u8 x) :: .sc (.int .u8 y) :: b.take 60 := fun x y => List.take_of_length_le (by simp; omega)
    have hk : ∀ i, kb i b = .sc (.int .u8 107) :: .sc (.int .u8 (48 + i)) :: b.take 60 := fun i => by rw [Jle]; simp
    unfold g21
    simp only [hm, ht, e]
    have hr4 : Jj (2 + (b.take 60).length) 1 = true := by simp only [Jj, Nat.mul_one, decide_eq_true_eq]; omega
    rw [Jb (by simp; unfold J3; simp only [zi]; split <;> omega), hr4]
    simp only [hk] at hr
    exact hr
  · cases hr
def Jsp : Nat → C13 → Int
  | 0, c => 1 + c.kd % 5
  | 1, c => c.fr % 3
  | 2, c => (c.fr % 3 + 1 + c.to % 2) % 3
  | 3, c => c.wh % 3
  | 4, c => c.wn % 100
  | 5, c => c.cd % 3
  | 6, c => c.cu % 8
  | 7, c => c.ve % 1073741824
  | 8, c => c.co % 1073741824
  | 9, c => c.ad % 3
  | 10, c => c.au % 8
  | 11, c => c.su % 1073741824
  | _, c => c.er % 256
noncomputable def XA : Nat → C13 → Int := hid Jsp
noncomputable abbrev JBq (c : C13) : C13 := ⟨XA 0 c, XA 1 c, XA 2 c, XA 3 c, XA 4 c, XA 5 c, XA 6 c, XA 7 c, XA 8 c, XA 9 c, XA 10 c, XA 11 c, XA 12 c⟩
noncomputable def Jwk : Fns := JH 70 Jne (F0)
theorem JnD : JA tau Try.prog Jwk := (JJ).add JkJ JrC
def Jio : An := (.seq .leaf (.seq .leaf .leaf))
noncomputable def Jsq (f : Nat) (b_z : Bool) (b_f : Bool) (b : List PV) (n : Int) (k : Res → Option Res) : Option Res := bif decide ((Jo [.ro 5 b_z b_f b, .ro 5 false false [.sc (.int .u8 (IntKind.u8.wrap n))]]).length ≤ 140737488355328) && true then k (Res.mk (.ow 5 16 [] 0 (Jo [.ro 5 b_z b_f b, .ro 5 false false [.sc (.int .u8 (IntKind.u8.wrap n))]]).length none) [] [.vec false 5 (Jo [.ro 5 b_z b_f b, .ro 5 false false [.sc (.int .u8 (IntKind.u8.wrap n))]]).isEmpty (Jo [.ro 5 b_z b_f b, .ro 5 false false [.sc (.int .u8 (IntKind.u8.wrap n))]])]) else none
theorem Jz3 (f : Nat) (b_z : Bool) (b_f : Bool) (b : List PV) (n : Int) (k : Res → Option Res) : JN tau Jwk Try.f96 (Try.f96.body.get!) Jio [] 0 [.ro 5 b_z b_f b, .sc (.int .i64 n)] [] k = Jsq f b_z b_f b n k := by kernel_rfl
theorem Jwl (f : Nat) : Ji (Try.f96.body.get!) Jio = [] := by kernel_rfl
theorem Jwm (f : Nat) : ∀ q ∈ Ji (Try.f96.body.get!) Jio, q.Ok tau Try.prog 0 := by
  rw [Jwl f]; intro q hq; cases hq
theorem Jwn : Try.prog.funcs[96]? = some Try.f96 := by kernel_rfl
theorem Jwo : Try.f96.body = some (Try.f96.body.get!) := by kernel_rfl
noncomputable def Jwp : Fns := JH 70 Jne (F0)
theorem JnE : JA tau Try.prog Jwp := (JJ).add JkJ JrC
def Jip : An := (.seq .leaf (.seq .leaf (.seq .leaf .leaf)))
noncomputable def Jsr (f : Nat) (b_z : Bool) (b_f : Bool) (b : List PV) (s : ByteArray) (k : Res → Option Res) : Option Res := bif decide (0 ≤ J3 (zi s.size) 65535) && true && decide ((J3 (zi s.size) 65535).toNat ≤ s.size) && true then bif Jj (s.extract 0 (J3 (zi s.size) 65535).toNat).size 1 && true then bif decide ((Jo [.ro 5 b_z b_f b, .ro 5 false false [.sc (.int .u8 (IntKind.u8.wrap (zi (s.extract 0 (J3 (zi s.size) 65535).toNat).size))), .sc (.int .u8 (IntKind.u8.wrap (JB IntKind.i64 (zi (s.extract 0 (J3 (zi s.size) 65535).toNat).size) 8)))], .ro 5 false false (List.take (s.extract 0 (J3 (zi s.size) 65535).toNat).size (Jp (s.extract 0 (J3 (zi s.size) 65535).toNat)))]).length ≤ 140737488355328) && true then k (Res.mk (.ow 5 16 [] 0 (Jo [.ro 5 b_z b_f b, .ro 5 false false [.sc (.int .u8 (IntKind.u8.wrap (zi (s.extract 0 (J3 (zi s.size) 65535).toNat).size))), .sc (.int .u8 (IntKind.u8.wrap (JB IntKind.i64 (zi (s.extract 0 (J3 (zi s.size) 65535).toNat).size) 8)))], .ro 5 false false (List.take (s.extract 0 (J3 (zi s.size) 65535).toNat).size (Jp (s.extract 0 (J3 (zi s.size) 65535).toNat)))]).length none) [] [.vec false 5 (Jo [.ro 5 b_z b_f b, .ro 5 false false [.sc (.int .u8 (IntKind.u8.wrap (zi (s.extract 0 (J3 (zi s.size) 65535).toNat).size))), .sc (.int .u8 (IntKind.u8.wrap (JB IntKind.i64 (zi (s.extract 0 (J3 (zi s.size) 65535).toNat).size) 8)))], .ro 5 false false (List.take (s.extract 0 (J3 (zi s.size) 65535).toNat).size (Jp (s.extract 0 (J3 (zi s.size) 65535).toNat)))]).isEmpty (Jo [.ro 5 b_z b_f b, .ro 5 false false [.sc (.int .u8 (IntKind.u8.wrap (zi (s.extract 0 (J3 (zi s.size) 65535).toNat).size))), .sc (.int .u8 (IntKind.u8.wrap (JB IntKind.i64 (zi (s.extract 0 (J3 (zi s.size) 65535).toNat).size) 8)))], .ro 5 false false (List.take (s.extract 0 (J3 (zi s.size) 65535).toNat).size (Jp (s.extract 0 (J3 (zi s.size) 65535).toNat)))])]) else none else none else none
theorem Jz4 (f : Nat) (b_z : Bool) (b_f : Bool) (b : List PV) (s : ByteArray) (k : Res → Option Res) : JN tau Jwp Try.f98 (Try.f98.body.get!) Jip [] 0 [.ro 5 b_z b_f b, .sc (.string s)] [] k = Jsr f b_z b_f b s k := by kernel_rfl
theorem Jwq (f : Nat) : Ji (Try.f98.body.get!) Jip = [] := by kernel_rfl
theorem Jwr (f : Nat) : ∀ q ∈ Ji (Try.f98.body.get!) Jip, q.Ok tau Try.prog 0 := by
  rw [Jwq f]; intro q hq; cases hq
theorem Jws : Try.prog.funcs[98]? = some Try.f98 := by kernel_rfl
theorem Jwt : Try.f98.body = some (Try.f98.body.get!) := by kernel_rfl
noncomputable def JdD : List PV → List Ent → (Res → Option Res) → Option Res
  | [.ro 5 z f b, .sc (.int .i64 n)], [], k => bif slB z b then k ⟨.ow 5 16 [] 0 (b.length + 1) none, [], [.vec false 5 false (b ++ pu .u8 [IntKind.u8.wrap n])]⟩ else none
  | _, _, _ => none
noncomputable def Jz5 : Sig := { own := [], run := JdD }
theorem Jwu : Jk tau Try.prog 96 Jz5 := Jk.mk' fun xs es k res hl hr => by
  change JdD xs es k = some res at hr
  unfold JdD at hr
  split at hr
  · rename_i z f b n
    obtain ⟨hc, hr⟩ := JL hr
    obtain ⟨h1, h2⟩ := Q3.1 hc
    have hg : Jsq 0 z f b n k = some res := by
      have hf : Jo [PV.ro 5 z f b, PV.ro 5 false false [PV.sc (Value.int IntKind.u8 (IntKind.u8.wrap n))]] = b ++ pu .u8 [IntKind.u8.wrap n] := by simp [PV.els, pu]
      have hf2 : Jo [PV.ro 5 z f b, PV.ro 5 false true [PV.sc (Value.int IntKind.u8 (IntKind.u8.wrap n))]] = b ++ pu .u8 [IntKind.u8.wrap n] := by simp [PV.els, pu]
      have he : (b ++ pu .u8 [IntKind.u8.wrap n]).isEmpty = false := by simp
      have hlen : (b ++ pu .u8 [IntKind.u8.wrap n]).length = b.length + 1 := by simp
      unfold Jsq
      simp only [hf, hf2, List.take_length, List.drop_zero, List.take_succ_cons, List.take_zero, he, hlen, Ent.nil]
      rw [Jb (by simp; omega)]
      exact hr
    exact Qp Js JnD Jt Jwn Jwo Jio [] 0 0 (Jwm 0) hl rfl ((Jz3 0 z f b n k).trans hg)
  · cases hr
noncomputable def JdE : List PV → List Ent → (Res → Option Res) → Option Res
  | [.ro 5 z f b, .sc (.string s)], [], k => bif slB z b && Nat.ble s.size 65535 then k ⟨.ow 5 16 [] 0 (b.length + (s.size + 2)) none, [], [.vec false 5 false (b ++ pu .u8 (Qj s))]⟩ else none
  | _, _, _ => none
noncomputable def Jz6 : Sig := { own := [], run := JdE }
theorem Jwv : Jk tau Try.prog 98 Jz6 := Jk.mk' fun xs es k res hl hr => by
  change JdE xs es k = some res at hr
  unfold JdE at hr
  split at hr
  · rename_i z f b s
    obtain ⟨hc, hr⟩ := JL hr
    rw [Bool.and_eq_true, Nat.ble_eq] at hc
    obtain ⟨h1, h2⟩ := Q3.1 hc.1
    have hg : Jsr 0 z f b s k = some res := by
      have hm : J3 (zi s.size) 65535 = (s.size : Int) := by unfold J3; rw [if_neg (by simp only [zi]; omega)]
      unfold Jsr
      simp only [hm, Int.toNat_natCast, Jfe]
      have hf : ∀ x y : Bool, Jo [PV.ro 5 z f b, PV.ro 5 false x [PV.sc (Value.int IntKind.u8 (IntKind.u8.wrap (zi s.size))), PV.sc (Value.int IntKind.u8 (IntKind.u8.wrap (JB IntKind.i64 (zi s.size) 8)))], PV.ro 5 false y (List.take s.size (Jp s))] = b ++ pu .u8 (Qj s) := by
        intro x y
        rw [Wd, List.take_of_length_le (by simp), Q5, X2]
        simp [PV.els, pu]
      have he : (b ++ pu .u8 (Qj s)).isEmpty = false := by
        rw [Q5, X2]; simp
      have hlen : (b ++ pu .u8 (Qj s)).length = b.length + (s.size + 2) := by simp
      simp only [hf, List.take_length, List.drop_zero, List.take_succ_cons, List.take_zero, he, hlen, Ent.nil]
      rw [Jb (by simp), Jb (by simp [Jj]; omega), Jb (by simp; omega)]
      exact hr
    exact Qp Js JnE Jt Jws Jwt Jip [] 0 0 (Jwr 0) hl rfl ((Jz4 0 z f b s k).trans hg)
  · cases hr
noncomputable def apI : List PV → Int → List PV := hid fun b n => b ++ pu .u8 (J7 n)
noncomputable def apY : List PV → Int → List PV := hid fun b n => b ++ pu .u8 [IntKind.u8.wrap n]
noncomputable def apT : List PV → ByteArray → List PV := hid fun b s => b ++ pu .u8 (Qj s)
noncomputable def okZ : Bool → List PV → Bool := hid slB
noncomputable def okL : Nat → List PV → Bool := hid fun m l => Nat.beq m l.length && Nat.ble l.length 1000000000
theorem Y7 (b : List PV) (n : Int) : apI b n = b ++ pu .u8 (J7 n) := by rw [apI, hid_eq]
theorem Z9 (b : List PV) (n : Int) : apY b n = b ++ pu .u8 [IntKind.u8.wrap n] := by rw [apY, hid_eq]
theorem Xp (b : List PV) (s : ByteArray) : apT b s = b ++ pu .u8 (Qj s) := by rw [apT, hid_eq]
theorem Y8 (z : Bool) (b : List PV) : okZ z b = slB z b := by rw [okZ, hid_eq]
theorem JdF (m : Nat) (l : List PV) : okL m l = (Nat.beq m l.length && Nat.ble l.length 1000000000) := by rw [okL, hid_eq]
noncomputable def JgQ : List PV → List Ent → (Res → Option Res) → Option Res
  | [.ro 5 z f b, .sc (.int .i64 n)], [], k => bif okZ z b then k ⟨.ro 5 false false (apI b n), [], []⟩ else none
  | _, _, _ => none
noncomputable def Jww : Sig := { own := [], run := JgQ }
theorem Jwx : Jk tau Try.prog 97 Jww := fun xs es k res hl hr => Jwf xs es k res hl (by
  change JgQ xs es k = some res at hr
  show JdA xs es k = some res
  unfold JgQ at hr
  split at hr
  · rw [Y8, Y7] at hr; exact hr
  · cases hr)
noncomputable def JgR : List PV → List Ent → (Res → Option Res) → Option Res
  | [.ro 5 z f b, .sc (.int .i64 n)], [], k => bif okZ z b then k ⟨.ow 5 16 [] 0 (apY b n).length none, [], [.vec false 5 false (apY b n)]⟩ else none
  | _, _, _ => none
noncomputable def Jss : Sig := { own := [], run := JgR }
theorem Jp0 : Jk tau Try.prog 96 Jss := fun xs es k res hl hr => Jwu xs es k res hl (by
  change JgR xs es k = some res at hr
  show JdD xs es k = some res
  unfold JgR at hr
  split at hr
  · rename_i z f b n
    rw [Y8, Z9, show (b ++ pu .u8 [IntKind.u8.wrap n]).length = b.length + 1 by simp] at hr; exact hr
  · cases hr)
noncomputable def JgS : List PV → List Ent → (Res → Option Res) → Option Res
  | [.ro 5 z f b, .sc (.string s)], [], k => bif okZ z b && Nat.ble s.size 65535 then k ⟨.ow 5 16 [] 0 (apT b s).length none, [], [.vec false 5 false (apT b s)]⟩ else none
  | _, _, _ => none
noncomputable def JnF : Sig := { own := [], run := JgS }
theorem Jlf : Jk tau Try.prog 98 JnF := fun xs es k res hl hr => Jwv xs es k res hl (by
  change JgS xs es k = some res at hr
  show JdE xs es k = some res
  unfold JgS at hr
  split at hr
  · rename_i z f b s
    rw [Y8, Xp, show (b ++ pu .u8 (Qj s)).length = b.length + (s.size + 2) by simp] at hr; exact hr
  · cases hr)
noncomputable def JdG : List PV → List Ent → (Res → Option Res) → Option Res
  | [.ro 5 true true [], .sc (.int .i64 n)], [], k => k ⟨.ow 5 16 [] 0 (apY [] n).length none, [], [.vec false 5 false (apY [] n)]⟩
  | [.ow 5 0 [] 0 m none, .sc (.int .i64 n)], [.vec false 5 nl l], k => bif okL m l then k ⟨.ow 5 16 [] 0 (apY l n).length none, [.dead], [.vec false 5 false (apY l n)]⟩ else none
  | _, _, _ => none
noncomputable def Jp1 : Sig := { own := [true], run := JdG }
theorem Jst : Jk tau Try.prog 110 Jp1 := fun xs es k res hl hr => Jsm xs es k res hl (by
  change JdG xs es k = some res at hr
  show VS xs es k = some res
  unfold JdG at hr
  split at hr
  · rw [Z9] at hr; exact hr
  · rename_i m n nl l
    rw [JdF, Z9] at hr
    obtain ⟨hc, hr⟩ := JL hr
    have hm : m = l.length := by rw [Bool.and_eq_true, Nat.beq_eq] at hc; exact hc.1
    have h2 : VS [.ow 5 0 [] 0 m none, .sc (.int .i64 n)] [.vec false 5 nl l] k = k ⟨.ow 5 16 [] 0 (m + 1) none, [.dead], [.vec false 5 false (l ++ pu .u8 [IntKind.u8.wrap n])]⟩ := Jb hc
    rw [h2, ← hr, hm]; simp
  · cases hr)
noncomputable def JdH : List PV → List Ent → (Res → Option Res) → Option Res
  | [.ow 5 0 [] 0 m none, .sc (.int .i64 n)], [.vec false 5 nl l], k => bif okL m l then k ⟨.ow 5 16 [] 0 (apI l n).length none, [.dead], [.vec false 5 false (apI l n)]⟩ else none
  | _, _, _ => none
noncomputable def Jp2 : Sig := { own := [true], run := JdH }
theorem Jlg : Jk tau Try.prog 108 Jp2 := fun xs es k res hl hr => Jlb xs es k res hl (by
  change JdH xs es k = some res at hr
  show VT xs es k = some res
  unfold JdH at hr
  split at hr
  · rename_i m n nl l
    rw [JdF, Y7] at hr
    obtain ⟨hc, hr⟩ := JL hr
    have hm : m = l.length := by rw [Bool.and_eq_true, Nat.beq_eq] at hc; exact hc.1
    have h2 : VT [.ow 5 0 [] 0 m none, .sc (.int .i64 n)] [.vec false 5 nl l] k = k ⟨.ow 5 16 [] 0 (m + 8) none, [.dead], [.vec false 5 false (l ++ pu .u8 (J7 n))]⟩ := Jb hc
    rw [h2, ← hr, hm]; simp
  · cases hr)
noncomputable def JdI : List PV → List Ent → (Res → Option Res) → Option Res
  | [.ow 5 0 [] 0 m none, .sc (.string s)], [.vec false 5 nl l], k => bif okL m l && Nat.ble s.size 65535 then k ⟨.ow 5 16 [] 0 (apT l s).length none, [.dead], [.vec false 5 false (apT l s)]⟩ else none
  | _, _, _ => none
noncomputable def Jp3 : Sig := { own := [true], run := JdI }
theorem Jlh : Jk tau Try.prog 109 Jp3 := fun xs es k res hl hr => Jsn xs es k res hl (by
  change JdI xs es k = some res at hr
  show VU xs es k = some res
  unfold JdI at hr
  split at hr
  · rename_i m s nl l
    rw [JdF, Xp] at hr
    obtain ⟨hc, hr⟩ := JL hr
    have hm : m = l.length := by simp only [Bool.and_eq_true, Nat.beq_eq] at hc; exact hc.1.1
    have h2 : VU [.ow 5 0 [] 0 m none, .sc (.string s)] [.vec false 5 nl l] k = k ⟨.ow 5 16 [] 0 (m + (s.size + 2)) none, [.dead], [.vec false 5 false (l ++ pu .u8 (Qj s))]⟩ := Jb hc
    rw [h2, ← hr, hm]; simp
  · cases hr)
noncomputable def Jwy : Fns := JH 131 JkY (F0)
theorem JnG : JA tau Try.prog Jwy := (JJ).add JkZ JkX
def JnH : Nm := [(0, .any), (1, .any), (5, .own), (6, .any)]
def Jsu : An := (.seq .leaf (.seq .leaf (.seq .leaf (.seq .leaf (.seq (.seq .leaf (.seq .leaf (.cond .leaf .leaf))) (.seq .leaf .leaf))))))
def Jiq : An := (.seq .leaf (.scope JnH Jsu))
noncomputable def Jli (f : Nat) (b_z : Bool) (b_f : Bool) (b : List PV) (n : Int) (k : Res → Option Res) : Option Res :=
  bif b_z then
    k (Res.mk (PV.ow 5 16 [] 0 8 none) []
      [Ent.vec false 5 false
          [PV.sc (Value.int IntKind.u8 (IntKind.u8.wrap (JB IntKind.u64 (IntKind.u64.wrap n) (IntKind.i64.wrap (8 * 0))))),
            PV.sc (Value.int IntKind.u8 (IntKind.u8.wrap (JB IntKind.u64 (IntKind.u64.wrap n) (IntKind.i64.wrap (8 * IntKind.i64.wrap (0 + 1)))))),
            PV.sc (Value.int IntKind.u8 (IntKind.u8.wrap (JB IntKind.u64 (IntKind.u64.wrap n) (IntKind.i64.wrap (8 * IntKind.i64.wrap (IntKind.i64.wrap (0 + 1) + 1)))))),
            PV.sc (Value.int IntKind.u8 (IntKind.u8.wrap (JB IntKind.u64 (IntKind.u64.wrap n) (IntKind.i64.wrap (8 * IntKind.i64.wrap (IntKind.i64.wrap (IntKind.i64.wrap (0 + 1) + 1) + 1)))))),
            PV.sc
              (Value.int IntKind.u8
                (IntKind.u8.wrap (JB IntKind.u64 (IntKind.u64.wrap n) (IntKind.i64.wrap (8 * IntKind.i64.wrap (IntKind.i64.wrap (IntKind.i64.wrap (IntKind.i64.wrap (0 + 1) + 1) + 1) + 1)))))),
            PV.sc
              (Value.int IntKind.u8
                (IntKind.u8.wrap
                  (JB IntKind.u64 (IntKind.u64.wrap n)
                    (IntKind.i64.wrap (8 * IntKind.i64.wrap (IntKind.i64.wrap (IntKind.i64.wrap (IntKind.i64.wrap (IntKind.i64.wrap (0 + 1) + 1) + 1) + 1) + 1)))))),
            PV.sc
              (Value.int IntKind.u8
                (IntKind.u8.wrap
                  (JB IntKind.u64 (IntKind.u64.wrap n)
                    (IntKind.i64.wrap (8 * IntKind.i64.wrap (IntKind.i64.wrap (IntKind.i64.wrap (IntKind.i64.wrap (IntKind.i64.wrap (IntKind.i64.wrap (0 + 1) + 1) + 1) + 1) + 1) + 1)))))),
            PV.sc
              (Value.int IntKind.u8
                (IntKind.u8.wrap
                  (JB IntKind.u64 (IntKind.u64.wrap n)
                    (IntKind.i64.wrap
                      (8 * IntKind.i64.wrap (IntKind.i64.wrap (IntKind.i64.wrap (IntKind.i64.wrap (IntKind.i64.wrap (IntKind.i64.wrap (IntKind.i64.wrap (0 + 1) + 1) + 1) + 1) + 1) + 1) + 1))))))]])
  else bif Jj (0 + b.length) 1 && true then
    bif Jj (0 + b.length + 1) 1 && true then
      bif Jj (0 + b.length + 1 + 1) 1 && true then
        bif Jj (0 + b.length + 1 + 1 + 1) 1 && true then
          bif Jj (0 + b.length + 1 + 1 + 1 + 1) 1 && true then
            bif Jj (0 + b.length + 1 + 1 + 1 + 1 + 1) 1 && true then
              bif Jj (0 + b.length + 1 + 1 + 1 + 1 + 1 + 1) 1 && true then
                bif Jj (0 + b.length + 1 + 1 + 1 + 1 + 1 + 1 + 1) 1 && true then
                  bif Jj (0 + b.length + 1 + 1 + 1 + 1 + 1 + 1 + 1 + 1) 1 && true then
                    bif Jj
                        (0 +
                          (List.take (0 + b.length + 1 + 1 + 1 + 1 + 1 + 1 + 1 + 1)
                              (List.take (0 + b.length + 1 + 1 + 1 + 1 + 1 + 1 + 1)
                                  (List.take (0 + b.length + 1 + 1 + 1 + 1 + 1 + 1)
                                      (List.take (0 + b.length + 1 + 1 + 1 + 1 + 1)
                                          (List.take (0 + b.length + 1 + 1 + 1 + 1)
                                              (List.take (0 + b.length + 1 + 1 + 1)
                                                  (List.take (0 + b.length + 1 + 1)
                                                      (List.take (0 + b.length + 1)
                                                          (List.take (0 + b.length) b ++
                                                            [PV.sc (Value.int IntKind.u8 (IntKind.u8.wrap (JB IntKind.u64 (IntKind.u64.wrap n) (IntKind.i64.wrap (8 * 0)))))]) ++
                                                        [PV.sc (Value.int IntKind.u8 (IntKind.u8.wrap (JB IntKind.u64 (IntKind.u64.wrap n) (IntKind.i64.wrap (8 * IntKind.i64.wrap (0 + 1))))))]) ++
                                                    [PV.sc
                                                        (Value.int IntKind.u8
                                                          (IntKind.u8.wrap (JB IntKind.u64 (IntKind.u64.wrap n) (IntKind.i64.wrap (8 * IntKind.i64.wrap (IntKind.i64.wrap (0 + 1) + 1))))))]) ++
                                                [PV.sc
                                                    (Value.int IntKind.u8
                                                      (IntKind.u8.wrap
                                                        (JB IntKind.u64 (IntKind.u64.wrap n) (IntKind.i64.wrap (8 * IntKind.i64.wrap (IntKind.i64.wrap (IntKind.i64.wrap (0 + 1) + 1) + 1))))))]) ++
                                            [PV.sc
                                                (Value.int IntKind.u8
                                                  (IntKind.u8.wrap
                                                    (JB IntKind.u64 (IntKind.u64.wrap n)
                                                      (IntKind.i64.wrap (8 * IntKind.i64.wrap (IntKind.i64.wrap (IntKind.i64.wrap (IntKind.i64.wrap (0 + 1) + 1) + 1) + 1))))))]) ++
                                        [PV.sc
                                            (Value.int IntKind.u8
                                              (IntKind.u8.wrap
                                                (JB IntKind.u64 (IntKind.u64.wrap n)
                                                  (IntKind.i64.wrap (8 * IntKind.i64.wrap (IntKind.i64.wrap (IntKind.i64.wrap (IntKind.i64.wrap (IntKind.i64.wrap (0 + 1) + 1) + 1) + 1) + 1))))))]) ++
                                    [PV.sc
                                        (Value.int IntKind.u8
                                          (IntKind.u8.wrap
                                            (JB IntKind.u64 (IntKind.u64.wrap n)
                                              (IntKind.i64.wrap
                                                (8 *
                                                  IntKind.i64.wrap (IntKind.i64.wrap (IntKind.i64.wrap (IntKind.i64.wrap (IntKind.i64.wrap (IntKind.i64.wrap (0 + 1) + 1) + 1) + 1) + 1) + 1))))))]) ++
                                [PV.sc
                                    (Value.int IntKind.u8
                                      (IntKind.u8.wrap
                                        (JB IntKind.u64 (IntKind.u64.wrap n)
                                          (IntKind.i64.wrap
                                            (8 *
                                              IntKind.i64.wrap
                                                (IntKind.i64.wrap (IntKind.i64.wrap (IntKind.i64.wrap (IntKind.i64.wrap (IntKind.i64.wrap (IntKind.i64.wrap (0 + 1) + 1) + 1) + 1) + 1) + 1) +
                                                  1))))))])).length)
                        1 &&
                      true then
                      k (Res.mk
                        (PV.ow 5 16 [] 0
                          (0 +
                            (List.take (0 + b.length + 1 + 1 + 1 + 1 + 1 + 1 + 1 + 1)
                                (List.take (0 + b.length + 1 + 1 + 1 + 1 + 1 + 1 + 1)
                                    (List.take (0 + b.length + 1 + 1 + 1 + 1 + 1 + 1)
                                        (List.take (0 + b.length + 1 + 1 + 1 + 1 + 1)
                                            (List.take (0 + b.length + 1 + 1 + 1 + 1)
                                                (List.take (0 + b.length + 1 + 1 + 1)
                                                    (List.take (0 + b.length + 1 + 1)
                                                        (List.take (0 + b.length + 1)
                                                            (List.take (0 + b.length) b ++
                                                              [PV.sc (Value.int IntKind.u8 (IntKind.u8.wrap (JB IntKind.u64 (IntKind.u64.wrap n) (IntKind.i64.wrap (8 * 0)))))]) ++
                                                          [PV.sc (Value.int IntKind.u8 (IntKind.u8.wrap (JB IntKind.u64 (IntKind.u64.wrap n) (IntKind.i64.wrap (8 * IntKind.i64.wrap (0 + 1))))))]) ++
                                                      [PV.sc
                                                          (Value.int IntKind.u8
                                                            (IntKind.u8.wrap (JB IntKind.u64 (IntKind.u64.wrap n) (IntKind.i64.wrap (8 * IntKind.i64.wrap (IntKind.i64.wrap (0 + 1) + 1))))))]) ++
                                                  [PV.sc
                                                      (Value.int IntKind.u8
                                                        (IntKind.u8.wrap
                                                          (JB IntKind.u64 (IntKind.u64.wrap n) (IntKind.i64.wrap (8 * IntKind.i64.wrap (IntKind.i64.wrap (IntKind.i64.wrap (0 + 1) + 1) + 1))))))]) ++
                                              [PV.sc
                                                  (Value.int IntKind.u8
                                                    (IntKind.u8.wrap
                                                      (JB IntKind.u64 (IntKind.u64.wrap n)
                                                        (IntKind.i64.wrap (8 * IntKind.i64.wrap (IntKind.i64.wrap (IntKind.i64.wrap (IntKind.i64.wrap (0 + 1) + 1) + 1) + 1))))))]) ++
                                          [PV.sc
                                              (Value.int IntKind.u8
                                                (IntKind.u8.wrap
                                                  (JB IntKind.u64 (IntKind.u64.wrap n)
                                                    (IntKind.i64.wrap
                                                      (8 * IntKind.i64.wrap (IntKind.i64.wrap (IntKind.i64.wrap (IntKind.i64.wrap (IntKind.i64.wrap (0 + 1) + 1) + 1) + 1) + 1))))))]) ++
                                      [PV.sc
                                          (Value.int IntKind.u8
                                            (IntKind.u8.wrap
                                              (JB IntKind.u64 (IntKind.u64.wrap n)
                                                (IntKind.i64.wrap
                                                  (8 *
                                                    IntKind.i64.wrap
                                                      (IntKind.i64.wrap (IntKind.i64.wrap (IntKind.i64.wrap (IntKind.i64.wrap (IntKind.i64.wrap (0 + 1) + 1) + 1) + 1) + 1) + 1))))))]) ++
                                  [PV.sc
                                      (Value.int IntKind.u8
                                        (IntKind.u8.wrap
                                          (JB IntKind.u64 (IntKind.u64.wrap n)
                                            (IntKind.i64.wrap
                                              (8 *
                                                IntKind.i64.wrap
                                                  (IntKind.i64.wrap (IntKind.i64.wrap (IntKind.i64.wrap (IntKind.i64.wrap (IntKind.i64.wrap (IntKind.i64.wrap (0 + 1) + 1) + 1) + 1) + 1) + 1) +
                                                    1))))))])).length)
                          none)
                        []
                        [Ent.vec false 5 false
                            (List.take (0 + b.length + 1 + 1 + 1 + 1 + 1 + 1 + 1 + 1)
                              (List.take (0 + b.length + 1 + 1 + 1 + 1 + 1 + 1 + 1)
                                  (List.take (0 + b.length + 1 + 1 + 1 + 1 + 1 + 1)
                                      (List.take (0 + b.length + 1 + 1 + 1 + 1 + 1)
                                          (List.take (0 + b.length + 1 + 1 + 1 + 1)
                                              (List.take (0 + b.length + 1 + 1 + 1)
                                                  (List.take (0 + b.length + 1 + 1)
                                                      (List.take (0 + b.length + 1)
                                                          (List.take (0 + b.length) b ++
                                                            [PV.sc (Value.int IntKind.u8 (IntKind.u8.wrap (JB IntKind.u64 (IntKind.u64.wrap n) (IntKind.i64.wrap (8 * 0)))))]) ++
                                                        [PV.sc (Value.int IntKind.u8 (IntKind.u8.wrap (JB IntKind.u64 (IntKind.u64.wrap n) (IntKind.i64.wrap (8 * IntKind.i64.wrap (0 + 1))))))]) ++
                                                    [PV.sc
                                                        (Value.int IntKind.u8
                                                          (IntKind.u8.wrap (JB IntKind.u64 (IntKind.u64.wrap n) (IntKind.i64.wrap (8 * IntKind.i64.wrap (IntKind.i64.wrap (0 + 1) + 1))))))]) ++
                                                [PV.sc
                                                    (Value.int IntKind.u8
                                                      (IntKind.u8.wrap
                                                        (JB IntKind.u64 (IntKind.u64.wrap n) (IntKind.i64.wrap (8 * IntKind.i64.wrap (IntKind.i64.wrap (IntKind.i64.wrap (0 + 1) + 1) + 1))))))]) ++
                                            [PV.sc
                                                (Value.int IntKind.u8
                                                  (IntKind.u8.wrap
                                                    (JB IntKind.u64 (IntKind.u64.wrap n)
                                                      (IntKind.i64.wrap (8 * IntKind.i64.wrap (IntKind.i64.wrap (IntKind.i64.wrap (IntKind.i64.wrap (0 + 1) + 1) + 1) + 1))))))]) ++
                                        [PV.sc
                                            (Value.int IntKind.u8
                                              (IntKind.u8.wrap
                                                (JB IntKind.u64 (IntKind.u64.wrap n)
                                                  (IntKind.i64.wrap (8 * IntKind.i64.wrap (IntKind.i64.wrap (IntKind.i64.wrap (IntKind.i64.wrap (IntKind.i64.wrap (0 + 1) + 1) + 1) + 1) + 1))))))]) ++
                                    [PV.sc
                                        (Value.int IntKind.u8
                                          (IntKind.u8.wrap
                                            (JB IntKind.u64 (IntKind.u64.wrap n)
                                              (IntKind.i64.wrap
                                                (8 *
                                                  IntKind.i64.wrap (IntKind.i64.wrap (IntKind.i64.wrap (IntKind.i64.wrap (IntKind.i64.wrap (IntKind.i64.wrap (0 + 1) + 1) + 1) + 1) + 1) + 1))))))]) ++
                                [PV.sc
                                    (Value.int IntKind.u8
                                      (IntKind.u8.wrap
                                        (JB IntKind.u64 (IntKind.u64.wrap n)
                                          (IntKind.i64.wrap
                                            (8 *
                                              IntKind.i64.wrap
                                                (IntKind.i64.wrap (IntKind.i64.wrap (IntKind.i64.wrap (IntKind.i64.wrap (IntKind.i64.wrap (IntKind.i64.wrap (0 + 1) + 1) + 1) + 1) + 1) + 1) +
                                                  1))))))]))])
                    else none
                  else none
                else none
              else none
            else none
          else none
        else none
      else none
    else none
  else none
theorem Jz7 (f : Nat) (b_z : Bool) (b_f : Bool) (b : List PV) (n : Int) (k : Res → Option Res) : JN tau Jwy Try.f97 (Try.f97.body.get!) Jiq [] 12 [.ro 5 b_z b_f b, .sc (.int .i64 n)] [] k = Jli f b_z b_f b n k := by kernel_rfl
theorem Jwz (f : Nat) : Ji (Try.f97.body.get!) Jiq = [] := by kernel_rfl
theorem JwA (f : Nat) : ∀ q ∈ Ji (Try.f97.body.get!) Jiq, q.Ok tau Try.prog 0 := by
  rw [Jwz f]; intro q hq; cases hq
theorem JwB : Try.prog.funcs[97]? = some Try.f97 := by kernel_rfl
theorem JwC : Try.f97.body = some (Try.f97.body.get!) := by kernel_rfl
noncomputable def JwD : Fns := F0
theorem JnI : JA tau Try.prog JwD := JJ
def Jir : An := (.seq .leaf (.seq (.seq .leaf (.cond .leaf .leaf)) (.seq .leaf .leaf)))
noncomputable def Jsv (f : Nat) (s : ByteArray) (k : Res → Option Res) : Option Res :=
  bif decide (zi s.size > 65535) then
    bif decide (65535 ≤ s.size) && true then
      bif Jj (2 + (Jp (s.extract 0 65535)).length) 1 && true then
        k (Res.mk (PV.ow 5 16 [] 0 (2 + (Jp (s.extract 0 65535)).length) none) []
          [Ent.vec false 5 false
              (PV.sc (Value.int IntKind.u8 (IntKind.u8.wrap (zi (s.extract 0 65535).size))) ::
                PV.sc (Value.int IntKind.u8 (IntKind.u8.wrap (JB IntKind.i64 (zi (s.extract 0 65535).size) 8))) ::
                  id (Jp (s.extract 0 65535)))])
      else none
    else none
  else bif Jj (2 + (Jp s).length) 1 && true then
    k (Res.mk (PV.ow 5 16 [] 0 (2 + (Jp s).length) none) []
      [Ent.vec false 5 false
          (PV.sc (Value.int IntKind.u8 (IntKind.u8.wrap (zi s.size))) ::
            PV.sc (Value.int IntKind.u8 (IntKind.u8.wrap (JB IntKind.i64 (zi s.size) 8))) ::
              id (Jp s))])
  else none
theorem Jz8 (f : Nat) (s : ByteArray) (k : Res → Option Res) : JN tau JwD Try.f109 (Try.f109.body.get!) Jir [] 0 [.ro 5 true true [], .sc (.string s)] [] k = Jsv f s k := by kernel_rfl
theorem JwE (f : Nat) : Ji (Try.f109.body.get!) Jir = [] := by kernel_rfl
theorem JwF (f : Nat) : ∀ q ∈ Ji (Try.f109.body.get!) Jir, q.Ok tau Try.prog 0 := by
  rw [JwE f]; intro q hq; cases hq
theorem Jp4 : Try.prog.funcs[109]? = some Try.f109 := by kernel_rfl
theorem Jp5 : Try.f109.body = some (Try.f109.body.get!) := by kernel_rfl
theorem JwG : Enters Try.prog 109 := enters_of Jp4 (by kernel_rfl) Jp5
noncomputable def JgT : List PV → List Ent → (Res → Option Res) → Option Res
  | [.ro 5 z f b, .sc (.int .i64 n)], [], k => bif okZ z b then k ⟨.ow 5 16 [] 0 (apI b n).length none, [], [.vec false 5 false (apI b n)]⟩ else none
  | _, _, _ => none
noncomputable def Jsw : Sig := { own := [], run := JgT }
theorem Jlj (f : Bool) (n : Int) (k : Res → Option Res) : Jli 0 true f [] n k = k ⟨.ow 5 16 [] 0 8 none, [], [.vec false 5 false (pu .u8 (J7 n))]⟩ := by
  rw [Wf]; kernel_rfl
theorem Jsx (f : Bool) (b : List PV) (hb : b.length ≤ 1000000000) (n : Int) (k : Res → Option Res) : Jli 0 false f b n k = k ⟨.ow 5 16 [] 0 (b.length + 8) none, [], [.vec false 5 false (b ++ pu .u8 (J7 n))]⟩ := by
  rw [Wf]
  unfold Jli
  refine (Jx rfl).trans ?_
  repeat rw [List.take_of_length_le (by simp <;> omega)]
  repeat (refine (Jb (by simp [Jj]; omega)).trans ?_)
  simp only [List.nil_append, List.append_assoc, List.length_append, List.length_cons, List.length_nil, Nat.zero_add]
  rfl
theorem Jp6 : Jk tau Try.prog 97 Jsw := Jk.mk' fun xs es k res hl hr => by
  change JgT xs es k = some res at hr
  unfold JgT at hr
  split at hr
  · rename_i z f b n
    obtain ⟨hc, hr2⟩ := JL hr
    clear hr
    rw [Y8] at hc
    obtain ⟨h1, h2⟩ := Q3.1 hc
    rw [Y7] at hr2
    have hg : Jli 0 z f b n k = some res := by
      cases z with
      | true => obtain rfl := h1 rfl; rw [Jlj]; simpa using hr2
      | false => rw [Jsx f b h2]; simpa using hr2
    exact Qp Js JnG Jt JwB JwC Jiq [] 0 12 (JwA 0) hl rfl ((Jz7 0 z f b n k).trans hg)
  · cases hr
noncomputable def JdJ : List PV → List Ent → (Res → Option Res) → Option Res
  | [.ro 5 true true [], .sc (.int .i64 n)], [], k => k ⟨.ow 5 16 [] 0 (apI [] n).length none, [], [.vec false 5 false (apI [] n)]⟩
  | [.ow 5 0 [] 0 m none, .sc (.int .i64 n)], [.vec false 5 nl l], k => bif okL m l then k ⟨.ow 5 16 [] 0 (apI l n).length none, [.dead], [.vec false 5 false (apI l n)]⟩ else none
  | _, _, _ => none
noncomputable def Jp7 : Sig := { own := [true], run := JdJ }
theorem Jsy : Jk tau Try.prog 108 Jp7 := fun xs es k res hl hr => by
  change JdJ xs es k = some res at hr
  unfold JdJ at hr
  split at hr
  · rename_i n
    refine Jlb _ _ k res hl ?_
    rw [Y7] at hr
    show k ⟨.ow 5 16 [] 0 8 none, [], [.vec false 5 false (pu .u8 (J7 n))]⟩ = some res
    simpa using hr
  · rename_i m n nl l
    exact Jlg _ _ k res hl hr
  · cases hr
noncomputable def JdK : List PV → List Ent → (Res → Option Res) → Option Res
  | [.ro 5 true true [], .sc (.string s)], [], k => bif Nat.ble s.size 65535 then k ⟨.ow 5 16 [] 0 (apT [] s).length none, [], [.vec false 5 false (apT [] s)]⟩ else none
  | [.ow 5 0 [] 0 m none, .sc (.string s)], [.vec false 5 nl l], k => bif okL m l && Nat.ble s.size 65535 then k ⟨.ow 5 16 [] 0 (apT l s).length none, [.dead], [.vec false 5 false (apT l s)]⟩ else none
  | _, _, _ => none
noncomputable def Jp8 : Sig := { own := [true], run := JdK }
theorem Jsz : Jk tau Try.prog 109 Jp8 := Jk.mk' fun xs es k res hl hr => by
  change JdK xs es k = some res at hr
  unfold JdK at hr
  split at hr
  · rename_i s
    obtain ⟨hc, hr⟩ := JL hr
    rw [Nat.ble_eq] at hc
    have hob : (Jp s).length = s.size := by rw [Wd]; simp
    have hg : Jsv 0 s k = some res := by
      unfold Jsv
      rw [Jx (by simp only [zi, decide_eq_false_iff_not]; omega), Jb (by simp [Jj, hob]; omega), hob]
      rw [Xp, Q5, X2] at hr
      simp only [List.nil_append, JR, List.length_append, JG, Z8, List.length_cons, List.length_nil, ← Wd] at hr
      rw [← hr, hob]
      simp only [id, Jap, Jgm, List.cons_append, List.nil_append, Nat.zero_add, Nat.reduceAdd]
    exact Qp Js JnI Jt Jp4 Jp5 Jir [] 0 0 (JwF 0) hl rfl ((Jz8 0 s k).trans hg)
  · rename_i m s nl l
    exact Jlh _ _ k res hl hr
  · cases hr
def JbO : Nat := 34
noncomputable def Jlk : Fns := JH 98 JnF (JH 97 Jww (JH 96 Jss (F0)))
theorem Jis : JA tau Try.prog Jlk := (((JJ).add Jp0 JvY).add Jwx Jr8).add Jlf Jr3
noncomputable def X5 : Code := Qy (Try.f114.body.get!) [1, 0]
def Wy : Nm := [(0, .any), (3, .own), (4, .any)]
def Xd : Nm := [(2, .any)]
def GA : An := (.seq .leaf (.seq .leaf (.seq .leaf (.seq (.seq .leaf (.cond (.seq .leaf (.seq .leaf .leaf)) .leaf)) (.seq .leaf .leaf)))))
def Jit (r0 : JtR) : An := (.seq .leaf (.ssum Wy JbO (GA) r0))
noncomputable def Y9 (f : Nat) (rc : Bool → Bool → List PV → Nat → Int → List PV → Option Res) (k0 : Nat → List PV → Option Res) (v0 : Bool) (v1 : Bool) (v2 : List PV) (v3 : Nat) (v4 : Int) (v5 : List PV) : Option Res := bif decide (v4 < zi v2.length) then bif decide (0 ≤ v4) && decide (v4 < zi v2.length) && (PV.isSt 99 #[Field.mk "Kind" 3 0 false "" "" 0, Field.mk "N" 3 1 false "" "" 8, Field.mk "S" 9 2 false "" "" 16].size (v2.getD v4.toNat PV.top) && (PV.isInt IntKind.i64 (PV.child 0 (v2.getD v4.toNat PV.top)) && (PV.isInt IntKind.i64 (PV.child (0 + 1) (v2.getD v4.toNat PV.top)) && ((PV.child (0 + 1 + 1) (v2.getD v4.toNat PV.top)).isStr && true)))) && true then bif okZ false (List.take v3 v5) then bif decide (0 ≤ v4) && decide (v4 < zi v2.length) && (PV.isSt 99 #[Field.mk "Kind" 3 0 false "" "" 0, Field.mk "N" 3 1 false "" "" 8, Field.mk "S" 9 2 false "" "" 16].size (v2.getD v4.toNat PV.top) && (PV.isInt IntKind.i64 (PV.child 0 (v2.getD v4.toNat PV.top)) && (PV.isInt IntKind.i64 (PV.child (0 + 1) (v2.getD v4.toNat PV.top)) && ((PV.child (0 + 1 + 1) (v2.getD v4.toNat PV.top)).isStr && true)))) && true then bif okZ false (List.take (apY (List.take v3 v5) (PV.child 0 (v2.getD v4.toNat PV.top)).int).length (apY (List.take v3 v5) (PV.child 0 (v2.getD v4.toNat PV.top)).int)) then bif decide (0 ≤ v4) && decide (v4 < zi v2.length) && (PV.isSt 99 #[Field.mk "Kind" 3 0 false "" "" 0, Field.mk "N" 3 1 false "" "" 8, Field.mk "S" 9 2 false "" "" 16].size (v2.getD v4.toNat PV.top) && (PV.isInt IntKind.i64 (PV.child 0 (v2.getD v4.toNat PV.top)) && (PV.isInt IntKind.i64 (PV.child (0 + 1) (v2.getD v4.toNat PV.top)) && ((PV.child (0 + 1 + 1) (v2.getD v4.toNat PV.top)).isStr && true)))) && true then bif okZ false (apI (List.take (apY (List.take v3 v5) (PV.child 0 (v2.getD v4.toNat PV.top)).int).length (apY (List.take v3 v5) (PV.child 0 (v2.getD v4.toNat PV.top)).int)) (PV.child (0 + 1) (v2.getD v4.toNat PV.top)).int) && (PV.child (0 + 1 + 1) (v2.getD v4.toNat PV.top)).str.size.ble 65535 then rc v0 v1 v2 ((apT (apI (List.take (apY (List.take v3 v5) (PV.child 0 (v2.getD v4.toNat PV.top)).int).length (apY (List.take v3 v5) (PV.child 0 (v2.getD v4.toNat PV.top)).int)) (PV.child (0 + 1) (v2.getD v4.toNat PV.top)).int) (PV.child (0 + 1 + 1) (v2.getD v4.toNat PV.top)).str).length) (IntKind.i64.wrap (v4 + 1)) (apT (apI (List.take (apY (List.take v3 v5) (PV.child 0 (v2.getD v4.toNat PV.top)).int).length (apY (List.take v3 v5) (PV.child 0 (v2.getD v4.toNat PV.top)).int)) (PV.child (0 + 1) (v2.getD v4.toNat PV.top)).int) (PV.child (0 + 1 + 1) (v2.getD v4.toNat PV.top)).str) else none else none else none else none else none else none else k0 v3 v5
noncomputable def X6 (f : Nat) (k0 : Nat → List PV → Option Res) : Nat → Bool → Bool → List PV → Nat → Int → List PV → Option Res
  | 0, _, _, _, _, _, _ => none
  | n + 1, v0, v1, v2, v3, v4, v5 => Y9 f (X6 f k0 n) k0 v0 v1 v2 v3 v4 v5
theorem Jll (f : Nat) (k : Kont) (n : Nat) (v0 : Bool) (v1 : Bool) (v2 : List PV) (v3 : Nat) (v4 : Int) (v5 : List PV) : QJ tau 0 Wy (hasLabel X5) (fun l s k => J8 tau Jlk 0 0 X5 (GA ) l s k) (n + 1) 0 (Je Wy JbO [.ro 99 v0 v1 v2, .ow 5 560 [] 0 v3 none, .sc (.int .i64 v4)] [(560, .vec false 5 false v5)]) (Jz tau 0 Xd k) = Y9 f (fun v0 v1 v2 v3 v4 v5 => QJ tau 0 Wy (hasLabel X5) (fun l s k => J8 tau Jlk 0 0 X5 (GA ) l s k) n 0 (Je Wy JbO [.ro 99 v0 v1 v2, .ow 5 560 [] 0 v3 none, .sc (.int .i64 v4)] [(560, .vec false 5 false v5)]) (Jz tau 0 Xd k)) (fun x0 x1 => k Ex.ret (Je Xd JbO [.ow 5 560 [] 0 x0 none] [(560, .vec false 5 false x1)])) v0 v1 v2 v3 v4 v5 := by kernel_rfl
theorem Jff (f : Nat) (k : Kont) : ∀ (n : Nat) (v0 : Bool) (v1 : Bool) (v2 : List PV) (v3 : Nat) (v4 : Int) (v5 : List PV), QJ tau 0 Wy (hasLabel X5) (fun l s k => J8 tau Jlk 0 0 X5 (GA ) l s k) n 0 (Je Wy JbO [.ro 99 v0 v1 v2, .ow 5 560 [] 0 v3 none, .sc (.int .i64 v4)] [(560, .vec false 5 false v5)]) (Jz tau 0 Xd k) = X6 f (fun x0 x1 => k Ex.ret (Je Xd JbO [.ow 5 560 [] 0 x0 none] [(560, .vec false 5 false x1)])) n v0 v1 v2 v3 v4 v5 | 0, _, _, _, _, _, _ => rfl | n + 1, v0, v1, v2, v3, v4, v5 => (Jll f k n v0 v1 v2 v3 v4 v5).trans (congrArg (fun r => Y9 f r (fun x0 x1 => k Ex.ret (Je Xd JbO [.ow 5 560 [] 0 x0 none] [(560, .vec false 5 false x1)])) v0 v1 v2 v3 v4 v5) (by funext v0 v1 v2 v3 v4 v5; exact Jff f k n v0 v1 v2 v3 v4 v5))
noncomputable def Va (f : Nat) : Nat → List PV → List (Nat × Ent) → Kont → Option Res
  | 0, [.ro 99 v0 v1 v2, .ow 5 560 [] 0 v3 none,
  PV.sc
    (Value.int IntKind.i64
      v4)], [(560, .vec false 5 false v5)], k => X6 f (fun x0 x1 => k Ex.ret (Je Xd JbO [.ow 5 560 [] 0 x0 none] [(560, .vec false 5 false x1)])) f v0 v1 v2 v3 v4 v5
  | _, _, _, _ => none
theorem JnJ (f : Nat) : Ji X5 GA = [] := by kernel_rfl
theorem JsA (f : Nat) : (Item.s X5 Wy JbO (Va f)).Ok tau Try.prog 0 := Ja3 Js Jis Jt (x := GA) (nm2 := Xd) (Jr _ _ (by rw [JnJ f]; intro q hq; cases hq)) fun l vs hp k res hr => by
  unfold Va at hr
  split at hr
  · exact ⟨f, 0, (Jff f _ f _ _ _ _ _ _ ).trans hr⟩
  · cases hr
noncomputable def JsB (f : Nat) (o_z : Bool) (o_f : Bool) (o : List PV) (k : Res → Option Res) : Option Res := bif okZ true [] then bif decide (0 < zi o.length) then bif decide (0 < zi o.length) && (PV.isSt 99 #[Field.mk "Kind" 3 0 false "" "" 0, Field.mk "N" 3 1 false "" "" 8, Field.mk "S" 9 2 false "" "" 16].size (o.getD (Int.toNat 0) PV.top) && (PV.isInt IntKind.i64 (PV.child 0 (o.getD 0 PV.top)) && (PV.isInt IntKind.i64 (PV.child (0 + 1) (o.getD 0 PV.top)) && ((PV.child (0 + 1 + 1) (o.getD 0 PV.top)).isStr && true)))) && true then bif okZ false (List.take (apY [] (zi o.length)).length (apY [] (zi o.length))) then bif decide (0 < zi o.length) && (PV.isSt 99 #[Field.mk "Kind" 3 0 false "" "" 0, Field.mk "N" 3 1 false "" "" 8, Field.mk "S" 9 2 false "" "" 16].size (o.getD (Int.toNat 0) PV.top) && (PV.isInt IntKind.i64 (PV.child 0 (o.getD 0 PV.top)) && (PV.isInt IntKind.i64 (PV.child (0 + 1) (o.getD 0 PV.top)) && ((PV.child (0 + 1 + 1) (o.getD 0 PV.top)).isStr && true)))) && true then bif okZ false (List.take (apY (List.take (apY [] (zi o.length)).length (apY [] (zi o.length))) (PV.child 0 (o.getD 0 PV.top)).int).length (apY (List.take (apY [] (zi o.length)).length (apY [] (zi o.length))) (PV.child 0 (o.getD 0 PV.top)).int)) then bif decide (0 < zi o.length) && (PV.isSt 99 #[Field.mk "Kind" 3 0 false "" "" 0, Field.mk "N" 3 1 false "" "" 8, Field.mk "S" 9 2 false "" "" 16].size (o.getD (Int.toNat 0) PV.top) && (PV.isInt IntKind.i64 (PV.child 0 (o.getD 0 PV.top)) && (PV.isInt IntKind.i64 (PV.child (0 + 1) (o.getD 0 PV.top)) && ((PV.child (0 + 1 + 1) (o.getD 0 PV.top)).isStr && true)))) && true then bif okZ false (apI (List.take (apY (List.take (apY [] (zi o.length)).length (apY [] (zi o.length))) (PV.child 0 (o.getD 0 PV.top)).int).length (apY (List.take (apY [] (zi o.length)).length (apY [] (zi o.length))) (PV.child 0 (o.getD 0 PV.top)).int)) (PV.child (0 + 1) (o.getD 0 PV.top)).int) && (PV.child (0 + 1 + 1) (o.getD 0 PV.top)).str.size.ble 65535 then X6 f (fun x0_0 x1_0 => k (Res.mk (.ro 5 false false (List.take x0_0 x1_0)) [] [])) f o_z o_f o ((apT (apI (List.take (apY (List.take (apY [] (zi o.length)).length (apY [] (zi o.length))) (PV.child 0 (o.getD 0 PV.top)).int).length (apY (List.take (apY [] (zi o.length)).length (apY [] (zi o.length))) (PV.child 0 (o.getD 0 PV.top)).int)) (PV.child (0 + 1) (o.getD 0 PV.top)).int) (PV.child (0 + 1 + 1) (o.getD 0 PV.top)).str).length) (IntKind.i64.wrap (0 + 1)) (apT (apI (List.take (apY (List.take (apY [] (zi o.length)).length (apY [] (zi o.length))) (PV.child 0 (o.getD 0 PV.top)).int).length (apY (List.take (apY [] (zi o.length)).length (apY [] (zi o.length))) (PV.child 0 (o.getD 0 PV.top)).int)) (PV.child (0 + 1) (o.getD 0 PV.top)).int) (PV.child (0 + 1 + 1) (o.getD 0 PV.top)).str) else none else none else none else none else none else none else k (Res.mk (.ro 5 false false (List.take (apY [] (zi o.length)).length (apY [] (zi o.length)))) [] []) else none
theorem Jz9 (f : Nat) (o_z : Bool) (o_f : Bool) (o : List PV) (k : Res → Option Res) : JN tau Jlk Try.f114 (Try.f114.body.get!) (Jit (Va f)) [.ro] 0 [.ro 99 o_z o_f o] [] k = JsB f o_z o_f o k := by kernel_rfl
theorem JwH (f : Nat) : Ji (Try.f114.body.get!) (Jit (Va f)) = [.s X5 Wy JbO (Va f)] := by kernel_rfl
theorem JwI (f : Nat) : ∀ q ∈ Ji (Try.f114.body.get!) (Jit (Va f)), q.Ok tau Try.prog 0 := by
  rw [JwH f]; simp only [List.forall_mem_cons, List.not_mem_nil, false_implies, implies_true, and_true]; exact JsA f
theorem Jp9 : Try.prog.funcs[114]? = some Try.f114 := by kernel_rfl
theorem Jqa : Try.f114.body = some (Try.f114.body.get!) := by kernel_rfl
theorem Jqb : Enters Try.prog 114 := enters_of Jp9 (by kernel_rfl) Jqa
def JbP : Nat := 34
noncomputable def Jlm : Fns := JH 110 Jp1 (JH 109 Jp3 (JH 108 Jp2 (F0)))
theorem Jiu : JA tau Try.prog Jlm := (((JJ).add Jlg JpW).add Jlh Jsk).add Jst Jv6
noncomputable def GB : Code := Qy (Try.f111.body.get!) [1, 1, 0, 1, 0, 0]
def Wz : Nm := [(0, .any), (3, .own), (4, .any)]
def Xe : Nm := [(3, .any)]
def Jbj : An := (.seq (.seq .leaf (.cond .leaf .leaf)) (.seq (.block none .leaf) .leaf))
def Jiv (r0 : Q6) : An := (.seq .leaf (.seq .leaf (.seq (.seq .leaf (.block none (.sum Wz JbP r0))) (.seq .leaf .leaf))))
noncomputable def Za (f : Nat) (rc : Bool → Bool → List PV → Nat → Int → List PV → Option Res) (k0 : Nat → List PV → Option Res) (v0 : Bool) (v1 : Bool) (v2 : List PV) (v3 : Nat) (v4 : Int) (v5 : List PV) : Option Res := bif decide (v4 < zi v2.length) then bif decide (0 ≤ v4) && decide (v4 < zi v2.length) && (PV.isSt 99 #[Field.mk "Kind" 3 0 false "" "" 0, Field.mk "N" 3 1 false "" "" 8, Field.mk "S" 9 2 false "" "" 16].size (v2.getD v4.toNat PV.top) && (PV.isInt IntKind.i64 (PV.child 0 (v2.getD v4.toNat PV.top)) && (PV.isInt IntKind.i64 (PV.child (0 + 1) (v2.getD v4.toNat PV.top)) && ((PV.child (0 + 1 + 1) (v2.getD v4.toNat PV.top)).isStr && true)))) && true then bif okL v3 v5 then bif decide (0 ≤ v4) && decide (v4 < zi v2.length) && (PV.isSt 99 #[Field.mk "Kind" 3 0 false "" "" 0, Field.mk "N" 3 1 false "" "" 8, Field.mk "S" 9 2 false "" "" 16].size (v2.getD v4.toNat PV.top) && (PV.isInt IntKind.i64 (PV.child 0 (v2.getD v4.toNat PV.top)) && (PV.isInt IntKind.i64 (PV.child (0 + 1) (v2.getD v4.toNat PV.top)) && ((PV.child (0 + 1 + 1) (v2.getD v4.toNat PV.top)).isStr && true)))) && true then bif okL (apY v5 (PV.child 0 (v2.getD v4.toNat PV.top)).int).length (apY v5 (PV.child 0 (v2.getD v4.toNat PV.top)).int) then bif decide (0 ≤ v4) && decide (v4 < zi v2.length) && (PV.isSt 99 #[Field.mk "Kind" 3 0 false "" "" 0, Field.mk "N" 3 1 false "" "" 8, Field.mk "S" 9 2 false "" "" 16].size (v2.getD v4.toNat PV.top) && (PV.isInt IntKind.i64 (PV.child 0 (v2.getD v4.toNat PV.top)) && (PV.isInt IntKind.i64 (PV.child (0 + 1) (v2.getD v4.toNat PV.top)) && ((PV.child (0 + 1 + 1) (v2.getD v4.toNat PV.top)).isStr && true)))) && true then bif okL (apI (apY v5 (PV.child 0 (v2.getD v4.toNat PV.top)).int) (PV.child (0 + 1) (v2.getD v4.toNat PV.top)).int).length (apI (apY v5 (PV.child 0 (v2.getD v4.toNat PV.top)).int) (PV.child (0 + 1) (v2.getD v4.toNat PV.top)).int) && (PV.child (0 + 1 + 1) (v2.getD v4.toNat PV.top)).str.size.ble 65535 then rc v0 v1 v2 ((apT (apI (apY v5 (PV.child 0 (v2.getD v4.toNat PV.top)).int) (PV.child (0 + 1) (v2.getD v4.toNat PV.top)).int) (PV.child (0 + 1 + 1) (v2.getD v4.toNat PV.top)).str).length) (IntKind.i64.wrap (v4 + 1)) (apT (apI (apY v5 (PV.child 0 (v2.getD v4.toNat PV.top)).int) (PV.child (0 + 1) (v2.getD v4.toNat PV.top)).int) (PV.child (0 + 1 + 1) (v2.getD v4.toNat PV.top)).str) else none else none else none else none else none else none else k0 v3 v5
noncomputable def X7 (f : Nat) (k0 : Nat → List PV → Option Res) : Nat → Bool → Bool → List PV → Nat → Int → List PV → Option Res
  | 0, _, _, _, _, _, _ => none
  | n + 1, v0, v1, v2, v3, v4, v5 => Za f (X7 f k0 n) k0 v0 v1 v2 v3 v4 v5
theorem Jln (f : Nat) (k : Kont) (n : Nat) (v0 : Bool) (v1 : Bool) (v2 : List PV) (v3 : Nat) (v4 : Int) (v5 : List PV) : Jq tau 0 Wz (fun s k => ev tau Jlm 0 0 GB (Jbj ) s k) (n + 1) (Je Wz JbP [.ro 99 v0 v1 v2, .ow 5 560 [] 0 v3 none, .sc (.int .i64 v4)] [(560, .vec false 5 false v5)]) (Jz tau 0 Xe k) = Za f (fun v0 v1 v2 v3 v4 v5 => Jq tau 0 Wz (fun s k => ev tau Jlm 0 0 GB (Jbj ) s k) n (Je Wz JbP [.ro 99 v0 v1 v2, .ow 5 560 [] 0 v3 none, .sc (.int .i64 v4)] [(560, .vec false 5 false v5)]) (Jz tau 0 Xe k)) (fun x0 x1 => k (Ex.exit 0) (Je Xe JbP [.ow 5 560 [] 0 x0 none] [(560, .vec false 5 false x1)])) v0 v1 v2 v3 v4 v5 := by kernel_rfl
theorem Jfg (f : Nat) (k : Kont) : ∀ (n : Nat) (v0 : Bool) (v1 : Bool) (v2 : List PV) (v3 : Nat) (v4 : Int) (v5 : List PV), Jq tau 0 Wz (fun s k => ev tau Jlm 0 0 GB (Jbj ) s k) n (Je Wz JbP [.ro 99 v0 v1 v2, .ow 5 560 [] 0 v3 none, .sc (.int .i64 v4)] [(560, .vec false 5 false v5)]) (Jz tau 0 Xe k) = X7 f (fun x0 x1 => k (Ex.exit 0) (Je Xe JbP [.ow 5 560 [] 0 x0 none] [(560, .vec false 5 false x1)])) n v0 v1 v2 v3 v4 v5 | 0, _, _, _, _, _, _ => rfl | n + 1, v0, v1, v2, v3, v4, v5 => (Jln f k n v0 v1 v2 v3 v4 v5).trans (congrArg (fun r => Za f r (fun x0 x1 => k (Ex.exit 0) (Je Xe JbP [.ow 5 560 [] 0 x0 none] [(560, .vec false 5 false x1)])) v0 v1 v2 v3 v4 v5) (by funext v0 v1 v2 v3 v4 v5; exact Jfg f k n v0 v1 v2 v3 v4 v5))
noncomputable def Vb (f : Nat) : List PV → List (Nat × Ent) → Kont → Option Res
  | [.ro 99 v0 v1 v2, .ow 5 560 [] 0 v3 none,
  PV.sc
    (Value.int IntKind.i64
      v4)], [(560, .vec false 5 false v5)], k => X7 f (fun x0 x1 => k (Ex.exit 0) (Je Xe JbP [.ow 5 560 [] 0 x0 none] [(560, .vec false 5 false x1)])) f v0 v1 v2 v3 v4 v5
  | _, _, _ => none
theorem JnK (f : Nat) : Ji GB Jbj = [] := by kernel_rfl
theorem JsC (f : Nat) : (Item.l GB Wz JbP (Vb f)).Ok tau Try.prog 0 := JM Js Jiu Jt (x := Jbj) (nm2 := Xe) (Jr _ _ (by rw [JnK f]; intro q hq; cases hq)) fun vs hp k res hr => by
  unfold Vb at hr
  split at hr
  · exact ⟨f, 0, (Jfg f _ f _ _ _ _ _ _ ).trans hr⟩
  · cases hr
noncomputable def JsD (f : Nat) (o_z : Bool) (o_f : Bool) (o : List PV) (k : Res → Option Res) : Option Res := X7 f (fun x0_0 x1_0 => k (Res.mk (.ow 5 16 [] 0 x0_0 none) [] [.vec false 5 false x1_0])) f o_z o_f o ((apY [] (zi o.length)).length) (0) (apY [] (zi o.length))
theorem JAa (f : Nat) (o_z : Bool) (o_f : Bool) (o : List PV) (k : Res → Option Res) : JN tau Jlm Try.f111 (Try.f111.body.get!) (Jiv (Vb f)) [] 0 [.ro 99 o_z o_f o] [] k = JsD f o_z o_f o k := by kernel_rfl
theorem JwJ (f : Nat) : Ji (Try.f111.body.get!) (Jiv (Vb f)) = [.l GB Wz JbP (Vb f)] := by kernel_rfl
theorem JwK (f : Nat) : ∀ q ∈ Ji (Try.f111.body.get!) (Jiv (Vb f)), q.Ok tau Try.prog 0 := by
  rw [JwJ f]; simp only [List.forall_mem_cons, List.not_mem_nil, false_implies, implies_true, and_true]; exact JsC f
theorem Jqc : Try.prog.funcs[111]? = some Try.f111 := by kernel_rfl
theorem Jqd : Try.f111.body = some (Try.f111.body.get!) := by kernel_rfl
theorem JwL : Enters Try.prog 111 := enters_of Jqc (by kernel_rfl) Jqd
noncomputable def JwM : Fns := F0
theorem JnL : JA tau Try.prog JwM := JJ
def Jiw : An := (.seq .leaf (.seq (.seq .leaf (.block none (.seq (.seq .leaf (.cond .leaf .leaf)) (.cond (.seq .leaf (.cond (.seq .leaf .leaf) .leaf)) (.seq .leaf (.cond (.seq .leaf (.cond (.seq .leaf .leaf) .leaf)) (.seq .leaf .leaf))))))) (.seq (.seq .leaf (.cond (.seq .leaf .leaf) .leaf)) (.seq .leaf .leaf))))
noncomputable def JnM (f : Nat) (c_Kind : Int) (c_N : Int) (c_S : ByteArray) (k : Res → Option Res) : Option Res :=
  bif c_Kind == 1 then
    bif c_Kind == 1 then
      bif decide (c_N < 1) then
        k (Res.mk (PV.sc (Value.int IntKind.i64 1)) [] [])
      else bif decide (c_N > 120) then
        k (Res.mk (PV.sc (Value.int IntKind.i64 1)) [] [])
      else bif !QZ c_S (ByteArray.mk (Array.mk [])) then
        k (Res.mk (PV.sc (Value.int IntKind.i64 1)) [] [])
      else bif decide (zi c_S.size > 120) then
        k (Res.mk (PV.sc (Value.int IntKind.i64 5)) [] [])
      else k (Res.mk (PV.sc (Value.int IntKind.i64 0)) [] [])
    else bif c_Kind == 2 then
      bif c_N != 0 then
        k (Res.mk (PV.sc (Value.int IntKind.i64 1)) [] [])
      else bif QZ c_S (ByteArray.mk (Array.mk [])) then
        k (Res.mk (PV.sc (Value.int IntKind.i64 1)) [] [])
      else bif decide (zi c_S.size > 120) then
        k (Res.mk (PV.sc (Value.int IntKind.i64 5)) [] [])
      else k (Res.mk (PV.sc (Value.int IntKind.i64 0)) [] [])
    else k (Res.mk (PV.sc (Value.int IntKind.i64 3)) [] [])
  else bif c_Kind == 3 then
    bif decide (c_N < 1) then
      k (Res.mk (PV.sc (Value.int IntKind.i64 1)) [] [])
    else bif decide (c_N > 120) then
      k (Res.mk (PV.sc (Value.int IntKind.i64 1)) [] [])
    else bif !QZ c_S (ByteArray.mk (Array.mk [])) then
      k (Res.mk (PV.sc (Value.int IntKind.i64 1)) [] [])
    else bif decide (zi c_S.size > 120) then
      k (Res.mk (PV.sc (Value.int IntKind.i64 5)) [] [])
    else k (Res.mk (PV.sc (Value.int IntKind.i64 0)) [] [])
  else bif c_Kind == 2 then
    bif c_N != 0 then
      k (Res.mk (PV.sc (Value.int IntKind.i64 1)) [] [])
    else bif QZ c_S (ByteArray.mk (Array.mk [])) then
      k (Res.mk (PV.sc (Value.int IntKind.i64 1)) [] [])
    else bif decide (zi c_S.size > 120) then
      k (Res.mk (PV.sc (Value.int IntKind.i64 5)) [] [])
    else k (Res.mk (PV.sc (Value.int IntKind.i64 0)) [] [])
  else k (Res.mk (PV.sc (Value.int IntKind.i64 3)) [] [])
theorem JAb (f : Nat) (c_Kind : Int) (c_N : Int) (c_S : ByteArray) (k : Res → Option Res) : JN tau JwM Try.f167 (Try.f167.body.get!) Jiw [.ro] 0 [.st 99 [.sc (.int .i64 c_Kind), .sc (.int .i64 c_N), .sc (.string c_S)]] [] k = JnM f c_Kind c_N c_S k := by kernel_rfl
theorem JwN (f : Nat) : Ji (Try.f167.body.get!) Jiw = [] := by kernel_rfl
theorem JwO (f : Nat) : ∀ q ∈ Ji (Try.f167.body.get!) Jiw, q.Ok tau Try.prog 0 := by
  rw [JwN f]; intro q hq; cases hq
theorem Jqe : Try.prog.funcs[167]? = some Try.f167 := by kernel_rfl
theorem Jqf : Try.f167.body = some (Try.f167.body.get!) := by kernel_rfl
theorem JwP : Enters Try.prog 167 := enters_of Jqe (by kernel_rfl) Jqf
noncomputable def JgU : List PV → List Ent → (Res → Option Res) → Option Res
  | [.st 99 [.sc (.int .i64 c_Kind), .sc (.int .i64 c_N), .sc (.string c_S)]], [], k => JnM 0 c_Kind c_N c_S k
  | _, _, _ => none
noncomputable def JAc : Sig := { own := [], run := JgU }
theorem JwQ : Jk tau Try.prog 167 JAc := JV Js JnL Jt Jqe Jqf Jiw [.ro] 0 [] JgU (JwO 0) fun xs es k res hr => by
  unfold JgU at hr
  split at hr
  · exact ⟨rfl, 0, (JAb 0 _ _ _  _).trans hr⟩
  · cases hr

-- FN op.check | ref4.check
structure CV where
  (kd n : Int) (s : ByteArray)
def JgV (c : CV) : Int :=
  bif c.kd == 1 || c.kd == 3 then (bif decide (c.n < 1) || (decide (c.n > 120) || !(c.s.size == 0)) then 1 else 0)
  else bif c.kd == 2 then (bif !(c.n == 0) || c.s.size == 0 then 1 else bif decide (zi c.s.size > 120) then 5 else 0) else 3
noncomputable def ckC : CV → Int := hid JgV
theorem Jbk (c : CV) : ckC c = JgV c := by rw [ckC, hid_eq]
theorem Jlo (s : ByteArray) : QZ s (ByteArray.mk (Array.mk [])) = (s.size == 0) := by
  rw [Jde]
  cases h : (s.size == 0) with
  | true =>
    have hs : s.size = 0 := by simpa using h
    refine decide_eq_true (ByteArray.ext (Array.eq_empty_of_size_eq_zero hs))
  | false =>
    refine decide_eq_false fun he => ?_
    rw [he] at h
    exact absurd h (by decide)
theorem JnN (kd n : Int) (s : ByteArray) (k : Res → Option Res) : JnM 0 kd n s k = k ⟨.sc (.int .i64 (ckC ⟨kd, n, s⟩)), [], []⟩ := by
  rw [Jbk]
  unfold JnM JgV
  simp only [Jlo, bne]
  have hcomb : (s.size == 0) = true → decide (zi s.size > 120) = false := fun h => by
    have : s.size = 0 := by simpa using h
    rw [this]; decide
  generalize (s.size == 0) = e0 at *
  generalize decide (zi s.size > 120) = e1 at *
  generalize decide (n < 1) = a
  generalize decide (n > 120) = b
  generalize (n == 0) = c
  generalize (kd == 1) = d1
  generalize (kd == 2) = d2
  generalize (kd == 3) = d3
  cases d1 <;> cases d3 <;> cases d2 <;> cases e0 <;> cases e1 <;> cases a <;> cases b <;> cases c <;> first | rfl | exact absurd (hcomb rfl) (by decide)
noncomputable def JdL : List PV → List Ent → (Res → Option Res) → Option Res
  | [.st 99 [.sc (.int .i64 kd), .sc (.int .i64 n), .sc (.string s)]], [], k => k ⟨.sc (.int .i64 (ckC ⟨kd, n, s⟩)), [], []⟩
  | _, _, _ => none
noncomputable def Jqg : Sig := { own := [], run := JdL }
theorem JsE : Jk tau Try.prog 167 Jqg := JwQ.of fun xs es k res hr => by
  change JdL xs es k = some res at hr
  unfold JdL at hr
  split at hr
  · rename_i kd n s
    exact (JnN kd n s k).trans hr
  · cases hr
def VW : Nat := 21
noncomputable def Jlp : Fns := JH 167 Jqg (F0)
theorem Jix : JA tau Try.prog Jlp := (JJ).add JsE JwP
noncomputable def GC : Code := Qy (Try.f160.body.get!) [1, 1, 0, 1, 0, 0]
def WA : Nm := [(9, .any), (10, .any), (11, .any)]
def QL : Nm := [(2, .any)]
def Jbl : An := (.seq .leaf (.seq (.cond .leaf .leaf) (.seq (.block none (.seq .leaf (.seq .leaf (.seq .leaf (.cond (.seq .leaf .leaf) .leaf))))) .leaf)))
def Jiy (r0 : Q6) : An := (.seq .leaf (.seq (.seq .leaf (.cond (.seq .leaf .leaf) .leaf)) (.seq (.seq .leaf (.block none (.sum WA VW r0))) (.seq .leaf .leaf))))
noncomputable def Zb (f : Nat) (rc : Bool → Bool → List PV → Int → Int → Option Res) (k0 : Int → Option Res) (k1 : Option Res) (v0 : Bool) (v1 : Bool) (v2 : List PV) (v3 : Int) (v4 : Int) : Option Res :=
  bif decide (v4 < v3) then
    bif decide (0 ≤ v4) && decide (v4 < zi v2.length) &&
        (PV.isSt 99 #[Field.mk "Kind" 3 0 false "" "" 0, Field.mk "N" 3 1 false "" "" 8, Field.mk "S" 9 2 false "" "" 16].size (v2.getD v4.toNat PV.top) &&
          (PV.isInt IntKind.i64 (PV.child 0 (v2.getD v4.toNat PV.top)) &&
            (PV.isInt IntKind.i64 (PV.child (0 + 1) (v2.getD v4.toNat PV.top)) && ((PV.child (0 + 1 + 1) (v2.getD v4.toNat PV.top)).isStr && true)))) &&
      true then
      bif ckC (CV.mk (PV.child 0 (v2.getD v4.toNat PV.top)).int (PV.child (0 + 1) (v2.getD v4.toNat PV.top)).int (PV.child (0 + 1 + 1) (v2.getD v4.toNat PV.top)).str) != 0 then
        k0 (ckC (CV.mk (PV.child 0 (v2.getD v4.toNat PV.top)).int (PV.child (0 + 1) (v2.getD v4.toNat PV.top)).int (PV.child (0 + 1 + 1) (v2.getD v4.toNat PV.top)).str))
      else rc v0 v1 v2 v3 (IntKind.i64.wrap (v4 + 1))
    else none
  else k1
noncomputable def X8 (f : Nat) (k0 : Int → Option Res) (k1 : Option Res) : Nat → Bool → Bool → List PV → Int → Int → Option Res
  | 0, _, _, _, _, _ => none
  | n + 1, v0, v1, v2, v3, v4 => Zb f (X8 f k0 k1 n) k0 k1 v0 v1 v2 v3 v4
theorem Jlq (f : Nat) (k : Kont) (n : Nat) (v0 : Bool) (v1 : Bool) (v2 : List
  PV) (v3 : Int) (v4 : Int) : Jq tau 0 WA (fun s k => ev tau Jlp 0 0 GC (Jbl ) s k) (n + 1) (Je WA VW [PV.ro 99 v0 v1 v2, PV.sc (Value.int IntKind.i64 v3),
  PV.sc
    (Value.int IntKind.i64
      v4)] []) (Jz tau 0 QL k) = Zb f (fun v0 v1 v2 v3 v4 => Jq tau 0 WA (fun s k => ev tau Jlp 0 0 GC (Jbl ) s k) n (Je WA VW [PV.ro 99 v0 v1 v2,
  PV.sc (Value.int IntKind.i64 v3),
  PV.sc
    (Value.int IntKind.i64
      v4)] []) (Jz tau 0 QL k)) (fun x0 => k Ex.ret (Je QL VW [PV.sc (Value.int IntKind.i64 x0)] [])) (k (Ex.exit 0) (Je QL VW [PV.top] [])) v0 v1 v2 v3 v4 := by kernel_rfl
theorem Jfh (f : Nat) (k : Kont) : ∀ (n : Nat) (v0 : Bool) (v1 : Bool) (v2 : List
  PV) (v3 : Int) (v4 : Int), Jq tau 0 WA (fun s k => ev tau Jlp 0 0 GC (Jbl ) s k) n (Je WA VW [PV.ro 99 v0 v1 v2, PV.sc (Value.int IntKind.i64 v3),
  PV.sc
    (Value.int IntKind.i64
      v4)] []) (Jz tau 0 QL k) = X8 f (fun x0 => k Ex.ret (Je QL VW [PV.sc (Value.int IntKind.i64 x0)] [])) (k (Ex.exit 0) (Je QL VW [PV.top] [])) n v0 v1 v2 v3 v4
  | 0, _, _, _, _, _ => rfl
  | n + 1, v0, v1, v2, v3, v4 => (Jlq f k n v0 v1 v2 v3 v4).trans (congrArg (fun r => Zb f r (fun x0 => k Ex.ret (Je QL VW [PV.sc
    (Value.int IntKind.i64 x0)] [])) (k (Ex.exit 0) (Je QL VW [PV.top] [])) v0 v1 v2 v3 v4) (by funext v0 v1 v2 v3 v4; exact Jfh f k n v0 v1 v2 v3 v4))
noncomputable def Vc (f : Nat) : List PV → List (Nat × Ent) → Kont → Option Res
  | [PV.ro 99 v0 v1 v2, PV.sc (Value.int IntKind.i64 v3),
  PV.sc
    (Value.int IntKind.i64 v4)], [], k => X8 f (fun x0 => k Ex.ret (Je QL VW [PV.sc (Value.int IntKind.i64 x0)] [])) (k (Ex.exit 0) (Je QL VW [PV.top] [])) f v0 v1 v2 v3 v4
  | _, _, _ => none
theorem JnO (f : Nat) : Ji GC Jbl = [] := by kernel_rfl
theorem JsF (f : Nat) : (Item.l GC WA VW (Vc f)).Ok tau Try.prog 0 := JM Js Jix Jt (x := Jbl) (nm2 := QL) (Jr _ _ (by rw [JnO f]; intro q hq; cases hq)) fun vs hp k res hr => by
  unfold Vc at hr
  split at hr
  · exact ⟨f, 0, (Jfh f _ f _ _ _ _ _ ).trans hr⟩
  · cases hr
noncomputable def JsG (f : Nat) (o_z : Bool) (o_f : Bool) (o : List PV) (k : Res → Option Res) : Option Res :=
  bif decide (zi o.length > 40) then
    k (Res.mk (PV.sc (Value.int IntKind.i64 4)) [] [])
  else X8 f (fun x0_0 =>
    k (Res.mk (PV.sc (Value.int IntKind.i64 x0_0)) [] [])) (k (Res.mk (PV.sc (Value.int IntKind.i64 0)) [] [])) f o_z o_f o (zi o.length) (0)
theorem JAd (f : Nat) (o_z : Bool) (o_f : Bool) (o : List PV) (k : Res → Option Res) : JN tau Jlp Try.f160 (Try.f160.body.get!) (Jiy (Vc f)) [.ro] 0 [.ro 99 o_z o_f o] [] k = JsG f o_z o_f o k := by kernel_rfl
theorem JwR (f : Nat) : Ji (Try.f160.body.get!) (Jiy (Vc f)) = [.l GC WA VW (Vc f)] := by kernel_rfl
theorem JwS (f : Nat) : ∀ q ∈ Ji (Try.f160.body.get!) (Jiy (Vc f)), q.Ok tau Try.prog 0 := by
  rw [JwR f]; simp only [List.forall_mem_cons, List.not_mem_nil, false_implies, implies_true, and_true]; exact JsF f
theorem Jqh : Try.prog.funcs[160]? = some Try.f160 := by kernel_rfl
theorem Jqi : Try.f160.body = some (Try.f160.body.get!) := by kernel_rfl
theorem Jqj : Enters Try.prog 160 := enters_of Jqh (by kernel_rfl) Jqi


-- FN op.Check | ref4.Check | law4.Few
def isCp : PV → Bool
  | .st t [.sc (.int .i64 _), .sc (.int .i64 _), .sc (.string _)] => t == 99
  | _ => false
theorem Jbm {p : PV} : isCp p = true ↔ ∃ kd n s, p = .st 99 [.sc (.int .i64 kd), .sc (.int .i64 n), .sc (.string s)] := by
  constructor
  · intro h
    unfold isCp at h
    split at h
    · rename_i t kd n s
      obtain rfl : t = 99 := by simpa using h
      exact ⟨kd, n, s, rfl⟩
    · cases h
  · rintro ⟨kd, n, s, rfl⟩; rfl
def cv (p : PV) : CV := ⟨(p.child 0).int, (p.child 1).int, (p.child 2).str⟩
theorem XB {p : PV} (h : isCp p = true) : (PV.isSt 99 #[Field.mk "Kind" 3 0 false "" "" 0, Field.mk "N" 3 1 false "" "" 8, Field.mk "S" 9 2 false "" "" 16].size p && (PV.isInt IntKind.i64 (PV.child 0 p) && (PV.isInt IntKind.i64 (PV.child (0 + 1) p) && ((PV.child (0 + 1 + 1) p).isStr && true)))) = true := by
  obtain ⟨kd, n, s, rfl⟩ := Jbm.1 h
  simp [PV.isSt, PV.child, PV.isInt, PV.isStr]
theorem XC {l : List PV} (h : l.all isCp = true) {i : Nat} (hi : i < l.length) : isCp (l.getD i .top) = true := by
  rw [List.getD_eq_getElem?_getD, List.getElem?_eq_getElem hi]
  exact List.all_eq_true.1 h _ (List.getElem_mem hi)
noncomputable def ckL : List PV → Int
  | [] => 0
  | p :: r => bif ckC (cv p) == 0 then ckL r else ckC (cv p)
noncomputable def JnP (l : List PV) : Int := bif decide (zi l.length > 40) then 4 else ckL l
noncomputable def ckO : List PV → Int := hid JnP
theorem JgW (l : List PV) : ckO l = JnP l := by rw [ckO, hid_eq]
noncomputable def cOk : List PV → Bool := hid fun l => l.all isCp && Nat.ble l.length 9223372036854775807
theorem ZF {l : List PV} : cOk l = true ↔ l.all isCp = true ∧ l.length ≤ 9223372036854775807 := by
  rw [cOk, hid_eq, Bool.and_eq_true, Nat.ble_eq]
theorem WL {l : List PV} {i : Nat} (h : i < l.length) : l.drop i = l.getD i .top :: l.drop (i + 1) := by
  rw [List.drop_eq_getElem_cons h]; simp [List.getD_eq_getElem?_getD, h]
theorem Jlr (l : List PV) (h1 : l.all isCp = true) (h2 : l.length ≤ 40) (f : Nat) (k0 : Int → Option Res) (k1 : Option Res) (z fl : Bool) : ∀ (d i n : Nat), i + d = l.length → d < n →
    X8 f k0 k1 n z fl l (zi l.length) (i : Int) = bif ckL (l.drop i) == 0 then k1 else k0 (ckL (l.drop i))
  | 0, i, n + 1, hi, hn => by
      rw [List.drop_of_length_le (by omega)]
      simp only [X8, Zb]
      exact Jx (by simp [zi]; omega)
  | d + 1, i, n + 1, hi, hn => by
      have g1 : ((i : Int)).toNat = i := by omega
      have w1 : IntKind.i64.wrap ((i : Int) + 1) = ((i + 1 : Nat) : Int) := by rw [wrap_i64 (by omega) (by omega)]; omega
      have hro : (decide (0 ≤ (i : Int)) && decide ((i : Int) < zi l.length) && (PV.isSt 99 #[Field.mk "Kind" 3 0 false "" "" 0, Field.mk "N" 3 1 false "" "" 8, Field.mk "S" 9 2 false "" "" 16].size (l.getD i PV.top) && (PV.isInt IntKind.i64 (PV.child 0 (l.getD i PV.top)) && (PV.isInt IntKind.i64 (PV.child (0 + 1) (l.getD i PV.top)) && ((PV.child (0 + 1 + 1) (l.getD i PV.top)).isStr && true)))) && true) = true := by
        have hq : (PV.isSt 99 #[Field.mk "Kind" 3 0 false "" "" 0, Field.mk "N" 3 1 false "" "" 8, Field.mk "S" 9 2 false "" "" 16].size (l.getD i PV.top) && (PV.isInt IntKind.i64 (PV.child 0 (l.getD i PV.top)) && (PV.isInt IntKind.i64 (PV.child (0 + 1) (l.getD i PV.top)) && ((PV.child (0 + 1 + 1) (l.getD i PV.top)).isStr && true)))) = true := XB (XC h1 (by omega))
        rw [hq]; simp [zi]; omega
      have hd := WL (l := l) (i := i) (by omega)
      have hs : CV.mk (PV.child 0 (l.getD i PV.top)).int (PV.child (0 + 1) (l.getD i PV.top)).int (PV.child (0 + 1 + 1) (l.getD i PV.top)).str = cv (l.getD i .top) := rfl
      simp only [X8, Zb, g1, w1, hs]
      refine (Jb (by simp [zi]; omega)).trans ((Jb hro).trans ?_)
      rw [hd]
      cases hc : (ckC (cv (l.getD i .top)) == 0) with
      | true =>
        refine (Jx (by simp only [bne, hc]; rfl)).trans ?_
        rw [Jlr l h1 h2 f k0 k1 z fl d (i + 1) n (by omega) (by omega)]
        simp only [ckL, hc, cond_true]
      | false =>
        refine (Jb (by simp only [bne, hc]; rfl)).trans ?_
        simp only [ckL, hc, cond_false]
noncomputable def JdM : List PV → List Ent → (Res → Option Res) → Option Res
  | [.ro 99 z f l], [], k => bif cOk l then k ⟨.sc (.int .i64 (ckO l)), [], []⟩ else none
  | _, _, _ => none
noncomputable def Jls : Sig := { own := [], run := JdM }
theorem JnQ (z f : Bool) (l : List PV) (h : cOk l = true) (k : Res → Option Res) : JsG 50 z f l k = k ⟨.sc (.int .i64 (ckO l)), [], []⟩ := by
  obtain ⟨h1, h2⟩ := ZF.1 h
  rw [JgW]
  unfold JsG JnP
  cases hc : decide (zi l.length > 40) with
  | true => rfl
  | false =>
    have hl : l.length ≤ 40 := by simp only [zi, decide_eq_false_iff_not] at hc; omega
    rw [cond_false, cond_false]
    refine (Jlr l h1 hl 50 _ _ z f l.length 0 50 (by omega) (by omega)).trans ?_
    rw [List.drop_zero]
    cases h0 : (ckL l == 0) with
    | true =>
      have : ckL l = 0 := by simpa using h0
      rw [this]; rfl
    | false => rfl
theorem Jlt : Jk tau Try.prog 160 Jls := Jk.mk' fun xs es k res hl hr => by
  change JdM xs es k = some res at hr
  unfold JdM at hr
  split at hr
  · rename_i z f l
    obtain ⟨hc, hr⟩ := JL hr
    exact Qp Js Jix Jt Jqh Jqi (Jiy (Vc 50)) [.ro] 0 0 (JwS 50) hl rfl ((JAd 50 z f l k).trans ((JnQ z f l hc k).trans hr))
  · cases hr
-- FN delta.OpBytes | ref8.OpBytes
noncomputable def Zc (c : CV) : List Int := [IntKind.u8.wrap c.kd] ++ (J7 c.n ++ Qj c.s)
noncomputable def Qd (l : List PV) : List Int := l.flatMap fun p => Zc (cv p)
noncomputable def JjE (l : List PV) : List Int := [IntKind.u8.wrap (zi l.length)] ++ Qd l
noncomputable def opB : List PV → List Int := hid JjE
theorem GD (l : List PV) : opB l = JjE l := by rw [opB, hid_eq]
theorem WB (c : CV) : (Zc c).length = c.s.size + 11 := by simp [Zc]; omega
theorem Jlu (c : CV) : ∀ x ∈ Zc c, 0 ≤ x ∧ x < 256 := by
  intro x hx
  simp only [Zc, List.mem_append, List.mem_singleton] at hx
  rcases hx with rfl | h | h
  · exact ZD _
  · exact X3 _ x h
  · exact Jfd _ x h
theorem JsH (l : List PV) : ∀ x ∈ opB l, 0 ≤ x ∧ x < 256 := by
  intro x hx
  rw [GD] at hx
  rcases List.mem_append.1 hx with h | h
  · rw [List.mem_singleton.1 h]; exact ZD _
  · obtain ⟨p, _, h⟩ := List.mem_flatMap.1 h
    exact Jlu _ x h
noncomputable def cBy : List PV → Bool := hid fun l => l.all isCp && (l.all (fun p => decide ((cv p).s.size ≤ 65535)) && decide (l.length ≤ 1000))
theorem Xf {l : List PV} : cBy l = true ↔ l.all isCp = true ∧ (∀ p ∈ l, (cv p).s.size ≤ 65535) ∧ l.length ≤ 1000 := by
  rw [cBy, hid_eq]; simp only [Bool.and_eq_true, List.all_eq_true, decide_eq_true_eq]
theorem Jbn (m : Nat) : ∀ l : List PV, (∀ p ∈ l, (cv p).s.size ≤ m) → (Qd l).length ≤ l.length * (m + 11)
  | [], _ => by simp [Qd]
  | p :: l, h => by
      have h1 := h p List.mem_cons_self
      have h2 := Jbn m l fun x hx => h x (List.mem_cons_of_mem _ hx)
      simp only [Qd, List.flatMap_cons, List.length_append, WB, List.length_cons, Nat.add_mul] at h2 ⊢
      omega
theorem JdN (L : List PV) (p : PV) : apT (apI (apY L (PV.child 0 p).int) (PV.child (0 + 1) p).int) (PV.child (0 + 1 + 1) p).str = L ++ pu .u8 (Zc (cv p)) := by
  rw [Xp, Y7, Z9]
  show _ = L ++ pu .u8 ([IntKind.u8.wrap (PV.child 0 p).int] ++ (J7 (PV.child (0 + 1) p).int ++ Qj (PV.child (0 + 1 + 1) p).str))
  simp only [JR, List.append_assoc]
theorem WC (L : List PV) (n : Int) : (apY L n).length = L.length + 1 := by rw [Z9]; simp
theorem ZG (L : List PV) (n : Int) : (apI L n).length = L.length + 8 := by rw [Y7]; simp
theorem Jbo {l : List PV} (h : l.length ≤ 1000000000) : okL l.length l = true := by
  rw [JdF, Bool.and_eq_true, Nat.beq_eq, Nat.ble_eq]; exact ⟨rfl, h⟩
theorem QR {l : List PV} (h : l.length ≤ 1000000000) : okZ false l = true := by rw [Y8]; exact Q3.2 ⟨fun h => (by cases h), h⟩
theorem Jlv (l : List PV) (h1 : l.all isCp = true) (h3 : ∀ p ∈ l, (cv p).s.size ≤ 65535) (h2 : l.length ≤ 1000) (f : Nat) (k0 : Nat → List PV → Option Res) (z fl : Bool) : ∀ (d i n : Nat) (L : List PV), i + d = l.length → d < n → L.length ≤ 1 + i * 65546 →
    X6 f k0 n z fl l L.length (i : Int) L = k0 (L ++ pu .u8 (Qd (l.drop i))).length (L ++ pu .u8 (Qd (l.drop i)))
  | 0, i, n + 1, L, hi, hn, hL => by
      rw [List.drop_of_length_le (by omega)]
      simp only [X6, Y9, Qd, List.flatMap_nil, Jgm, List.append_nil]
      exact Jx (by simp [zi]; omega)
  | d + 1, i, n + 1, L, hi, hn, hL => by
      have g1 : ((i : Int)).toNat = i := by omega
      have w1 : IntKind.i64.wrap ((i : Int) + 1) = ((i + 1 : Nat) : Int) := by rw [wrap_i64 (by omega) (by omega)]; omega
      have hro : (decide (0 ≤ (i : Int)) && decide ((i : Int) < zi l.length) && (PV.isSt 99 #[Field.mk "Kind" 3 0 false "" "" 0, Field.mk "N" 3 1 false "" "" 8, Field.mk "S" 9 2 false "" "" 16].size (l.getD i PV.top) && (PV.isInt IntKind.i64 (PV.child 0 (l.getD i PV.top)) && (PV.isInt IntKind.i64 (PV.child (0 + 1) (l.getD i PV.top)) && ((PV.child (0 + 1 + 1) (l.getD i PV.top)).isStr && true)))) && true) = true := by
        have hq : (PV.isSt 99 #[Field.mk "Kind" 3 0 false "" "" 0, Field.mk "N" 3 1 false "" "" 8, Field.mk "S" 9 2 false "" "" 16].size (l.getD i PV.top) && (PV.isInt IntKind.i64 (PV.child 0 (l.getD i PV.top)) && (PV.isInt IntKind.i64 (PV.child (0 + 1) (l.getD i PV.top)) && ((PV.child (0 + 1 + 1) (l.getD i PV.top)).isStr && true)))) = true := XB (XC h1 (by omega))
        rw [hq]; simp [zi]; omega
      have hd := WL (l := l) (i := i) (by omega)
      have hmem : l.getD i .top ∈ l := by rw [List.getD_eq_getElem?_getD, List.getElem?_eq_getElem (by omega)]; exact List.getElem_mem (by omega)
      have hsz := h3 _ hmem
      have hs2 : (PV.child (0 + 1 + 1) (l.getD i PV.top)).str.size.ble 65535 = true := Nat.ble_eq.symm ▸ hsz
      have hi2 : i * 65546 ≤ 999 * 65546 := Nat.mul_le_mul_right _ (by omega)
      simp only [X6, Y9, g1, w1, List.take_length]
      refine (Jb (by simp [zi]; omega)).trans ((Jb hro).trans ((Jb (QR (by omega))).trans ((Jb hro).trans ((Jb (QR (by rw [WC]; omega))).trans ((Jb hro).trans ((Jb (by rw [QR (by rw [ZG, WC]; omega), hs2]; rfl)).trans ?_))))))
      rw [JdN]
      refine (Jlv l h1 h3 h2 f k0 z fl d (i + 1) n _ (by omega) (by omega) (by rw [List.length_append, JG, WB]; omega)).trans ?_
      rw [hd]
      simp only [Qd, List.flatMap_cons, JR, List.append_assoc]
theorem Jlw (l : List PV) (h1 : l.all isCp = true) (h3 : ∀ p ∈ l, (cv p).s.size ≤ 65535) (h2 : l.length ≤ 1000) (f : Nat) (k0 : Nat → List PV → Option Res) (z fl : Bool) : ∀ (d i n : Nat) (L : List PV), i + d = l.length → d < n → L.length ≤ 1 + i * 65546 →
    X7 f k0 n z fl l L.length (i : Int) L = k0 (L ++ pu .u8 (Qd (l.drop i))).length (L ++ pu .u8 (Qd (l.drop i)))
  | 0, i, n + 1, L, hi, hn, hL => by
      rw [List.drop_of_length_le (by omega)]
      simp only [X7, Za, Qd, List.flatMap_nil, Jgm, List.append_nil]
      exact Jx (by simp [zi]; omega)
  | d + 1, i, n + 1, L, hi, hn, hL => by
      have g1 : ((i : Int)).toNat = i := by omega
      have w1 : IntKind.i64.wrap ((i : Int) + 1) = ((i + 1 : Nat) : Int) := by rw [wrap_i64 (by omega) (by omega)]; omega
      have hro : (decide (0 ≤ (i : Int)) && decide ((i : Int) < zi l.length) && (PV.isSt 99 #[Field.mk "Kind" 3 0 false "" "" 0, Field.mk "N" 3 1 false "" "" 8, Field.mk "S" 9 2 false "" "" 16].size (l.getD i PV.top) && (PV.isInt IntKind.i64 (PV.child 0 (l.getD i PV.top)) && (PV.isInt IntKind.i64 (PV.child (0 + 1) (l.getD i PV.top)) && ((PV.child (0 + 1 + 1) (l.getD i PV.top)).isStr && true)))) && true) = true := by
        have hq : (PV.isSt 99 #[Field.mk "Kind" 3 0 false "" "" 0, Field.mk "N" 3 1 false "" "" 8, Field.mk "S" 9 2 false "" "" 16].size (l.getD i PV.top) && (PV.isInt IntKind.i64 (PV.child 0 (l.getD i PV.top)) && (PV.isInt IntKind.i64 (PV.child (0 + 1) (l.getD i PV.top)) && ((PV.child (0 + 1 + 1) (l.getD i PV.top)).isStr && true)))) = true := XB (XC h1 (by omega))
        rw [hq]; simp [zi]; omega
      have hd := WL (l := l) (i := i) (by omega)
      have hmem : l.getD i .top ∈ l := by rw [List.getD_eq_getElem?_getD, List.getElem?_eq_getElem (by omega)]; exact List.getElem_mem (by omega)
      have hsz := h3 _ hmem
      have hs2 : (PV.child (0 + 1 + 1) (l.getD i PV.top)).str.size.ble 65535 = true := Nat.ble_eq.symm ▸ hsz
      have hi2 : i * 65546 ≤ 999 * 65546 := Nat.mul_le_mul_right _ (by omega)
      simp only [X7, Za, g1, w1, List.take_length]
      refine (Jb (by simp [zi]; omega)).trans ((Jb hro).trans ((Jb (Jbo (by omega))).trans ((Jb hro).trans ((Jb (Jbo (by rw [WC]; omega))).trans ((Jb hro).trans ((Jb (by rw [Jbo (by rw [ZG, WC]; omega), hs2]; rfl)).trans ?_))))))
      rw [JdN]
      refine (Jlw l h1 h3 h2 f k0 z fl d (i + 1) n _ (by omega) (by omega) (by rw [List.length_append, JG, WB]; omega)).trans ?_
      rw [hd]
      simp only [Qd, List.flatMap_cons, JR, List.append_assoc]
theorem Jfi {l : List PV} : apY [] (zi l.length) = pu .u8 [IntKind.u8.wrap (zi l.length)] := by rw [Z9]; rfl
noncomputable def JdO : List PV → List Ent → (Res → Option Res) → Option Res
  | [.ro 99 z f l], [], k => bif cBy l then k ⟨.ro 5 false false (pu .u8 (opB l)), [], []⟩ else none
  | _, _, _ => none
noncomputable def Jlx : Sig := { own := [], run := JdO }
theorem JnR (z f : Bool) (l : List PV) (h : cBy l = true) (k : Res → Option Res) : JsB 1010 z f l k = k ⟨.ro 5 false false (pu .u8 (opB l)), [], []⟩ := by
  obtain ⟨h1, h3, h2⟩ := Xf.1 h
  have hY := Jfi (l := l)
  rw [GD]
  unfold JsB
  simp only [List.take_length]
  refine (Jb (by rw [Y8]; rfl)).trans ?_
  cases l with
  | nil => exact (Jx (by simp [zi])).trans (by rw [hY]; rfl)
  | cons p r =>
    have hq : (PV.isSt 99 #[Field.mk "Kind" 3 0 false "" "" 0, Field.mk "N" 3 1 false "" "" 8, Field.mk "S" 9 2 false "" "" 16].size ((p :: r).getD 0 PV.top) && (PV.isInt IntKind.i64 (PV.child 0 ((p :: r).getD 0 PV.top)) && (PV.isInt IntKind.i64 (PV.child (0 + 1) ((p :: r).getD 0 PV.top)) && ((PV.child (0 + 1 + 1) ((p :: r).getD 0 PV.top)).isStr && true)))) = true := by
      have := XB (XC h1 (i := 0) (by simp))
      exact this
    have hro : (decide (0 < zi (p :: r).length) && (PV.isSt 99 #[Field.mk "Kind" 3 0 false "" "" 0, Field.mk "N" 3 1 false "" "" 8, Field.mk "S" 9 2 false "" "" 16].size ((p :: r).getD 0 PV.top) && (PV.isInt IntKind.i64 (PV.child 0 ((p :: r).getD 0 PV.top)) && (PV.isInt IntKind.i64 (PV.child (0 + 1) ((p :: r).getD 0 PV.top)) && ((PV.child (0 + 1 + 1) ((p :: r).getD 0 PV.top)).isStr && true)))) && true) = true := by
      rw [hq]; simp [zi]
    have hsz := h3 p List.mem_cons_self
    have hs2 : (PV.child (0 + 1 + 1) ((p :: r).getD 0 PV.top)).str.size.ble 65535 = true := Nat.ble_eq.symm ▸ hsz
    have l1 : (apY [] (zi (p :: r).length)).length = 1 := by rw [WC]; rfl
    refine (Jb (by simp [zi])).trans ((Jb hro).trans ((Jb (QR (by rw [l1]; decide))).trans ((Jb hro).trans ((Jb (QR (by rw [WC, l1]; decide))).trans ((Jb hro).trans ((Jb (by rw [QR (by rw [ZG, WC, l1]; decide), hs2]; rfl)).trans ?_))))))
    rw [JdN]
    have w1 : IntKind.i64.wrap (0 + 1) = ((1 : Nat) : Int) := by decide
    rw [w1]
    refine (Jlv (p :: r) h1 h3 h2 1010 _ z f r.length 1 1010 _ (by simp; omega) (by simp at h2; omega) (by rw [List.length_append, JG, WB, l1]; have : (cv ((p :: r).getD 0 PV.top)).s.size ≤ 65535 := hsz; omega)).trans ?_
    rw [List.take_length, hY]
    simp only [JjE, Qd, List.flatMap_cons, JR, List.append_assoc, List.drop_succ_cons, List.drop_zero, List.getD_cons_zero]
theorem Jly : Jk tau Try.prog 114 Jlx := Jk.mk' fun xs es k res hl hr => by
  change JdO xs es k = some res at hr
  unfold JdO at hr
  split at hr
  · rename_i z f l
    obtain ⟨hc, hr⟩ := JL hr
    exact Qp Js Jis Jt Jp9 Jqa (Jit (Va 1010)) [.ro] 0 0 (JwI 1010) hl rfl ((Jz9 1010 z f l k).trans ((JnR z f l hc k).trans hr))
  · cases hr
noncomputable def JdP : List PV → List Ent → (Res → Option Res) → Option Res
  | [.ro 99 z f l], [], k => bif cBy l then k ⟨.ow 5 16 [] 0 (opB l).length none, [], [.vec false 5 false (pu .u8 (opB l))]⟩ else none
  | _, _, _ => none
noncomputable def Jqk : Sig := { own := [], run := JdP }
theorem JnS (z f : Bool) (l : List PV) (h : cBy l = true) (k : Res → Option Res) : JsD 1010 z f l k = k ⟨.ow 5 16 [] 0 (opB l).length none, [], [.vec false 5 false (pu .u8 (opB l))]⟩ := by
  obtain ⟨h1, h3, h2⟩ := Xf.1 h
  have hY := Jfi (l := l)
  rw [GD]
  unfold JsD
  refine (Jlw l h1 h3 h2 1010 _ z f l.length 0 1010 _ (by omega) (by omega) (by rw [WC]; simp)).trans ?_
  rw [List.drop_zero, hY, ← JR]
  rw [show [IntKind.u8.wrap (zi l.length)] ++ Qd l = JjE l from rfl, JG]
theorem JsI : Jk tau Try.prog 111 Jqk := Jk.mk' fun xs es k res hl hr => by
  change JdP xs es k = some res at hr
  unfold JdP at hr
  split at hr
  · rename_i z f l
    obtain ⟨hc, hr⟩ := JL hr
    exact Qp Js Jiu Jt Jqc Jqd (Jiv (Vb 1010)) [] 0 0 (JwK 1010) hl rfl ((JAa 1010 z f l k).trans ((JnS z f l hc k).trans hr))
  · cases hr
end Go.Proofs.Ytcklhipdldpkhaa.Rx
