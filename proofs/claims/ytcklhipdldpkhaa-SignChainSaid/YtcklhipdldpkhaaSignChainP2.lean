/- What the functions of this law compute, and their plain laws. Conditions: none. -/
import Derived.KernelRfl
import Derived.Test.YtcklhipdldpkhaaSignChainP1
namespace Go.Proofs.Ytcklhipdldpkhaa.Rx
open Go
set_option linter.unusedVariables false
set_option maxRecDepth 100000
set_option maxHeartbeats 0
noncomputable def F140 : Fns := addF 157 s157' (F0)
theorem F140_ok : FnsOk tau Try.prog F140 := (F0_ok).addV ok157'
def an140 : An := (.seq .leaf (.seq .leaf (.seq .leaf (.seq (.seq .leaf (.cond (.seq .leaf .leaf) .leaf)) (.seq .leaf (.seq (.seq .leaf (.cond (.seq .leaf .leaf) .leaf)) (.seq (.seq .leaf (.cond (.seq .leaf (.seq .leaf (.seq .leaf (.seq .leaf .leaf)))) .leaf)) (.seq .leaf (.seq (.seq .leaf (.cond (.seq .leaf (.seq .leaf (.seq .leaf .leaf))) .leaf)) (.seq .leaf (.seq .leaf (.seq .leaf .leaf))))))))))))
noncomputable def g140 (f : Nat) (nl : Bool) (L : List PV) (n : Nat) (c : Nat) (x : PV) (k : Res → Option Res) : Option Res := bif decide (n + 1 ≤ (some c).getD (L.length - 0)) && true then bif decide (IntKind.i64.wrap (zi (n + 1) + zi 1) > zi c) then bif decide (0 ≤ IntKind.i64.wrap (IntKind.i64.wrap (zi (n + 1) + zi 1) - 0)) && decide (c - 0 < 0 + (IntKind.i64.wrap (IntKind.i64.wrap (zi (n + 1) + zi 1) - 0)).toNat) && roomy (0 + (IntKind.i64.wrap (IntKind.i64.wrap (zi (n + 1) + zi 1) - 0)).toNat) 24 && true then bif decide (0 + (IntKind.i64.wrap (IntKind.i64.wrap (zi (n + 1) + zi 1) - 0)).toNat ≤ none.getD ((List.replicate (IntKind.i64.wrap (IntKind.i64.wrap (zi (n + 1) + zi 1) - 0)).toNat (PV.ro 5 true true [])).length - 0)) && true then bif decide (1 ≤ 0 + (IntKind.i64.wrap (IntKind.i64.wrap (zi (n + 1) + zi 1) - 0)).toNat) && decide (0 + (IntKind.i64.wrap (IntKind.i64.wrap (zi (n + 1) + zi 1) - 0)).toNat ≤ none.getD ((List.take (0 + (IntKind.i64.wrap (IntKind.i64.wrap (zi (n + 1) + zi 1) - 0)).toNat - 0) [x] ++ List.drop (0 + min 1 (0 + (IntKind.i64.wrap (IntKind.i64.wrap (zi (n + 1) + zi 1) - 0)).toNat - 0)) (List.replicate (IntKind.i64.wrap (IntKind.i64.wrap (zi (n + 1) + zi 1) - 0)).toNat (PV.ro 5 true true []))).length - 0)) && true then bif decide (n + 1 ≤ (some c).getD (L.length - 0)) && true then k (Res.mk (.ro 29 false false (List.take (0 + (IntKind.i64.wrap (IntKind.i64.wrap (zi (n + 1) + zi 1) - 0)).toNat) (List.take 1 (List.take (0 + (IntKind.i64.wrap (IntKind.i64.wrap (zi (n + 1) + zi 1) - 0)).toNat - 0) [x] ++ List.drop (0 + min 1 (0 + (IntKind.i64.wrap (IntKind.i64.wrap (zi (n + 1) + zi 1) - 0)).toNat - 0)) (List.replicate (IntKind.i64.wrap (IntKind.i64.wrap (zi (n + 1) + zi 1) - 0)).toNat (PV.ro 5 true true []))) ++ List.take (0 + (IntKind.i64.wrap (IntKind.i64.wrap (zi (n + 1) + zi 1) - 0)).toNat - 1) (List.take (n + 1 - 0) L) ++ List.drop (1 + min (List.take (n + 1 - 0) L).length (0 + (IntKind.i64.wrap (IntKind.i64.wrap (zi (n + 1) + zi 1) - 0)).toNat - 1)) (List.take (0 + (IntKind.i64.wrap (IntKind.i64.wrap (zi (n + 1) + zi 1) - 0)).toNat - 0) [x] ++ List.drop (0 + min 1 (0 + (IntKind.i64.wrap (IntKind.i64.wrap (zi (n + 1) + zi 1) - 0)).toNat - 0)) (List.replicate (IntKind.i64.wrap (IntKind.i64.wrap (zi (n + 1) + zi 1) - 0)).toNat (PV.ro 5 true true [])))))) [.vec false 29 nl L, .vec false 29 false [x]] []) else none else none else none else none else bif decide (0 ≤ IntKind.i64.wrap (zi (n + 1) + zi 1)) && true && decide ((IntKind.i64.wrap (zi (n + 1) + zi 1)).toNat ≤ (some c).getD (L.length - 0)) && true then bif decide (1 ≤ (IntKind.i64.wrap (zi (n + 1) + zi 1)).toNat - 0) && decide ((IntKind.i64.wrap (zi (n + 1) + zi 1)).toNat - 0 ≤ (some (c - 0)).getD (L.length - 0)) && true then bif Nat.blt 0 ((IntKind.i64.wrap (zi (n + 1) + zi 1)).toNat - 0 - 1) && true then bif decide (1 ≤ (IntKind.i64.wrap (zi (n + 1) + zi 1)).toNat - 0) && decide ((IntKind.i64.wrap (zi (n + 1) + zi 1)).toNat - 0 ≤ (some (c - 0)).getD (L.length - 0)) && true then bif decide ((IntKind.i64.wrap (zi (n + 1) + zi 1)).toNat - 0 ≤ (some (c - 0)).getD (L.length - 0)) && true then bif decide ((IntKind.i64.wrap (zi (n + 1) + zi 1)).toNat - 0 ≤ (some (c - 0)).getD ((List.take 1 L ++ List.take ((IntKind.i64.wrap (zi (n + 1) + zi 1)).toNat - 0 - 1) (List.take ((IntKind.i64.wrap (zi (n + 1) + zi 1)).toNat - 0 - 0) L) ++ List.drop (1 + min (List.take ((IntKind.i64.wrap (zi (n + 1) + zi 1)).toNat - 0 - 0) L).length ((IntKind.i64.wrap (zi (n + 1) + zi 1)).toNat - 0 - 1)) L).length - 0)) && true then k (Res.mk (.ro 29 (Ent.vec false 29 nl (List.take ((IntKind.i64.wrap (zi (n + 1) + zi 1)).toNat - 0 - 0) [x] ++ List.drop (0 + min 1 ((IntKind.i64.wrap (zi (n + 1) + zi 1)).toNat - 0 - 0)) (List.take 1 L ++ List.take ((IntKind.i64.wrap (zi (n + 1) + zi 1)).toNat - 0 - 1) (List.take ((IntKind.i64.wrap (zi (n + 1) + zi 1)).toNat - 0 - 0) L) ++ List.drop (1 + min (List.take ((IntKind.i64.wrap (zi (n + 1) + zi 1)).toNat - 0 - 0) L).length ((IntKind.i64.wrap (zi (n + 1) + zi 1)).toNat - 0 - 1)) L))).nil false (List.take ((IntKind.i64.wrap (zi (n + 1) + zi 1)).toNat - 0) (List.take ((IntKind.i64.wrap (zi (n + 1) + zi 1)).toNat - 0 - 0) [x] ++ List.drop (0 + min 1 ((IntKind.i64.wrap (zi (n + 1) + zi 1)).toNat - 0 - 0)) (List.take 1 L ++ List.take ((IntKind.i64.wrap (zi (n + 1) + zi 1)).toNat - 0 - 1) (List.take ((IntKind.i64.wrap (zi (n + 1) + zi 1)).toNat - 0 - 0) L) ++ List.drop (1 + min (List.take ((IntKind.i64.wrap (zi (n + 1) + zi 1)).toNat - 0 - 0) L).length ((IntKind.i64.wrap (zi (n + 1) + zi 1)).toNat - 0 - 1)) L)))) [.vec true 29 nl (List.take ((IntKind.i64.wrap (zi (n + 1) + zi 1)).toNat - 0 - 0) [x] ++ List.drop (0 + min 1 ((IntKind.i64.wrap (zi (n + 1) + zi 1)).toNat - 0 - 0)) (List.take 1 L ++ List.take ((IntKind.i64.wrap (zi (n + 1) + zi 1)).toNat - 0 - 1) (List.take ((IntKind.i64.wrap (zi (n + 1) + zi 1)).toNat - 0 - 0) L) ++ List.drop (1 + min (List.take ((IntKind.i64.wrap (zi (n + 1) + zi 1)).toNat - 0 - 0) L).length ((IntKind.i64.wrap (zi (n + 1) + zi 1)).toNat - 0 - 1)) L)), .vec false 29 false [x]] []) else none else none else none else none else none else none else none
theorem e140 (f : Nat) (nl : Bool) (L : List PV) (n : Nat) (c : Nat) (x : PV) (k : Res → Option Res) : evFn tau F140 Try.f140 (Try.f140.body.get!) an140 [.ro] 0 [.ow 29 0 [] 0 (n + 1) (some c), .sc (.int .i64 0), .ow 29 1 [] 0 1 (some 1)] [.vec false 29 nl L, .vec false 29 false [x]] k = g140 f nl L n c x k := by kernel_rfl
theorem it140 (f : Nat) : items (Try.f140.body.get!) an140 = [] := by kernel_rfl
theorem ia140 (f : Nat) : ∀ q ∈ items (Try.f140.body.get!) an140, q.Ok tau Try.prog 2 := by
  rw [it140 f]; intro q hq; cases hq
theorem fo140 : Try.prog.funcs[140]? = some Try.f140 := by kernel_rfl
theorem bo140 : Try.f140.body = some (Try.f140.body.get!) := by kernel_rfl
theorem en140 : Enters Try.prog 140 := enters_of fo140 (by kernel_rfl) bo140
end Go.Proofs.Ytcklhipdldpkhaa.Rx

namespace Go.Proofs.Ytcklhipdldpkhaa.Rx
open Go
set_option linter.unusedVariables false
set_option maxRecDepth 100000
set_option maxHeartbeats 0
noncomputable def F140b : Fns := addF 157 s157' (F0)
theorem F140b_ok : FnsOk tau Try.prog F140b := (F0_ok).addV ok157'
def an140b : An := (.seq .leaf (.seq .leaf (.seq .leaf (.seq (.seq .leaf (.cond (.seq .leaf .leaf) .leaf)) (.seq .leaf (.seq (.seq .leaf (.cond (.seq .leaf .leaf) .leaf)) (.seq (.seq .leaf (.cond (.seq .leaf (.seq .leaf (.seq .leaf (.seq .leaf .leaf)))) .leaf)) (.seq .leaf (.seq (.seq .leaf (.cond (.seq .leaf (.seq .leaf (.seq .leaf .leaf))) .leaf)) (.seq .leaf (.seq .leaf (.seq .leaf .leaf))))))))))))
noncomputable def g140b (f : Nat) (x : PV) (k : Res → Option Res) : Option Res := k (Res.mk (.ro 29 false false [x]) [.vec false 29 false [x]] [])
theorem e140b (f : Nat) (x : PV) (k : Res → Option Res) : evFn tau F140b Try.f140 (Try.f140.body.get!) an140b [.ro] 0 [.ro 29 true true [], .sc (.int .i64 0), .ow 29 0 [] 0 1 (some 1)] [.vec false 29 false [x]] k = g140b f x k := by kernel_rfl
theorem it140b (f : Nat) : items (Try.f140.body.get!) an140b = [] := by kernel_rfl
theorem ia140b (f : Nat) : ∀ q ∈ items (Try.f140.body.get!) an140b, q.Ok tau Try.prog 1 := by
  rw [it140b f]; intro q hq; cases hq
theorem fo140b : Try.prog.funcs[140]? = some Try.f140 := by kernel_rfl
theorem bo140b : Try.f140.body = some (Try.f140.body.get!) := by kernel_rfl
end Go.Proofs.Ytcklhipdldpkhaa.Rx

namespace Go.Proofs.Ytcklhipdldpkhaa.Rx
open Go
set_option linter.unusedVariables false
set_option maxRecDepth 100000
set_option maxHeartbeats 0
noncomputable def F140c : Fns := addF 157 s157' (F0)
theorem F140c_ok : FnsOk tau Try.prog F140c := (F0_ok).addV ok157'
def an140c : An := (.seq .leaf (.seq .leaf (.seq .leaf (.seq (.seq .leaf (.cond (.seq .leaf .leaf) .leaf)) (.seq .leaf (.seq (.seq .leaf (.cond (.seq .leaf .leaf) .leaf)) (.seq (.seq .leaf (.cond (.seq .leaf (.seq .leaf (.seq .leaf (.seq .leaf .leaf)))) .leaf)) (.seq .leaf (.seq (.seq .leaf (.cond (.seq .leaf (.seq .leaf (.seq .leaf .leaf))) .leaf)) (.seq .leaf (.seq .leaf (.seq .leaf .leaf))))))))))))
noncomputable def g140c (f : Nat) (nl : Bool) (x : PV) (k : Res → Option Res) : Option Res := k (Res.mk (.ro 29 (Ent.vec false 29 (nl && ((Ent.vec false 29 false [x]).nil, List.take 1 (List.drop 0 [x])).snd.isEmpty) [x]).nil false [x]) [.dead, .vec false 29 false [x]] [])
theorem e140c (f : Nat) (nl : Bool) (x : PV) (k : Res → Option Res) : evFn tau F140c Try.f140 (Try.f140.body.get!) an140c [.ro] 0 [.ow 29 0 [] 0 0 none, .sc (.int .i64 0), .ow 29 1 [] 0 1 (some 1)] [.vec false 29 nl [], .vec false 29 false [x]] k = g140c f nl x k := by kernel_rfl
theorem it140c (f : Nat) : items (Try.f140.body.get!) an140c = [] := by kernel_rfl
theorem ia140c (f : Nat) : ∀ q ∈ items (Try.f140.body.get!) an140c, q.Ok tau Try.prog 2 := by
  rw [it140c f]; intro q hq; cases hq
theorem fo140c : Try.prog.funcs[140]? = some Try.f140 := by kernel_rfl
theorem bo140c : Try.f140.body = some (Try.f140.body.get!) := by kernel_rfl
end Go.Proofs.Ytcklhipdldpkhaa.Rx

-- FN slices.Insert[[][]byte,[]byte]
namespace Go.Proofs.Ytcklhipdldpkhaa.Rx
open Go
set_option linter.unusedVariables false
set_option linter.unusedSimpArgs false
set_option maxRecDepth 100000
set_option maxHeartbeats 1000000
theorem g_ins (els : List PV) (n : Nat) (hn : els.length = n + 1) (hb : n ≤ 1000000000) (c : Nat) (hc : n + 1 ≤ c) (x : PV) :
    ∃ r, g140 0 false (els ++ List.replicate (c - (n + 1)) .top) n c x some = some r ∧ ∃ p0 p1, r = ⟨.ro 29 false false (x :: els), [p0, p1], []⟩ := by
  have h1 : IntKind.i64.wrap (zi (n + 1) + zi 1) = ((n + 2 : Nat) : Int) := by simp only [zi]; rw [wrap_i64 (by omega) (by omega)]; omega
  have h2 : IntKind.i64.wrap (((n + 2 : Nat) : Int) - 0) = ((n + 2 : Nat) : Int) := by rw [wrap_i64 (by omega) (by omega)]; omega
  have h3 : (((n + 2 : Nat) : Int)).toNat = n + 2 := by omega
  have hL : (els ++ List.replicate (c - (n + 1)) PV.top).length = c := by simp; omega
  have hB : ∀ a b, a < b → Nat.blt a b = true := fun a b h => by rw [Nat.blt, Nat.ble_eq]; exact h
  unfold g140
  simp only [h1, h2, h3, Option.getD_some, Option.getD_none, Nat.sub_zero, Nat.zero_add, List.nil_append]
  have hbt : ∀ {c : Bool} {a b : Option Res} (h : c = true), (bif c then a else b) = a := fun h => bif_t h
  by_cases hg : c < n + 2
  · obtain rfl : c = n + 1 := by omega
    have e0 : n + 1 - (n + 1) = 0 := by omega
    simp only [e0, List.replicate_zero, List.append_nil, List.length_append, List.length_take, List.length_drop, List.length_replicate, List.length_cons, List.length_nil]
    have t1 : List.take (n + 2) [x] = [x] := List.take_of_length_le (by simp)
    have t2 : List.take (n + 1) els = els := List.take_of_length_le (by omega)
    have t3 : List.take 1 ([x] ++ List.drop (min 1 (n + 2)) (List.replicate (n + 2) (PV.ro 5 true true []))) = [x] := by simp
    have hr : roomy (n + 2) 24 = true := by simp [roomy]; omega
    refine ⟨_, (hbt (by simp <;> omega)).trans ((hbt (by simp [zi] <;> omega)).trans ((hbt (by simp only [hr]; simp <;> omega)).trans ((hbt (by simp)).trans ((hbt (by simp <;> omega)).trans ((hbt (by simp <;> omega)).trans rfl))))), ?_⟩
    simp only [t1, t2, t3, hn]
    have t4 : List.take (n + 2 - 1) els = els := List.take_of_length_le (by omega)
    have t5 : List.drop (1 + min (min (n + 1) (n + 1)) (n + 2 - 1)) ([x] ++ List.drop (min 1 (n + 2)) (List.replicate (n + 2) (PV.ro 5 true true []))) = [] := List.drop_eq_nil_iff.2 (by simp; omega)
    rw [t4, t5]
    have t6 : List.take (n + 2) ([x] ++ els ++ []) = x :: els := by rw [List.take_of_length_le (by simp; omega)]; simp
    rw [t6]
    exact ⟨_, _, rfl⟩
  · have t1 : List.take (n + 2 - 1) (List.take (n + 2) (els ++ List.replicate (c - (n + 1)) PV.top)) = els := by
      rw [List.take_take, show min (n + 2 - 1) (n + 2) = els.length from by omega, List.take_left']
      rfl
    have t2 : (List.take (n + 2) (els ++ List.replicate (c - (n + 1)) PV.top)).length = n + 2 := by rw [List.length_take]; omega
    have t3 : List.take (n + 2) [x] = [x] := List.take_of_length_le (by simp)
    refine ⟨_, (hbt (by simp; omega)).trans ((bif_f (by simp [zi]; omega)).trans ((hbt (by simp; omega)).trans ((hbt (by simp; omega)).trans ((hbt (by rw [hB _ _ (by omega)]; rfl)).trans ((hbt (by simp; omega)).trans ((hbt (by simp; omega)).trans ((hbt (by simp; omega)).trans rfl))))))), ?_⟩
    simp only [t1, t2, t3]
    have hT : ∀ R : List PV, List.take (n + 2) ([x] ++ List.drop (min 1 (n + 2)) (List.take 1 (els ++ List.replicate (c - (n + 1)) PV.top) ++ els ++ R)) = x :: els := by
      intro R
      have hone : (List.take 1 (els ++ List.replicate (c - (n + 1)) PV.top)).length = 1 := by rw [List.length_take]; omega
      rw [show min 1 (n + 2) = 1 from by omega, List.append_assoc, List.drop_left' hone, ← List.append_assoc, List.take_left' (by simp; omega)]
      rfl
    rw [hT]
    exact ⟨_, _, rfl⟩
def run140' : List PV → List Ent → (Res → Option Res) → Option Res
  | [.ow 29 0 [] 0 m none, .sc (.int .i64 0), .ow 29 1 [] 0 1 (some 1)], [.vec false 29 false els, .vec false 29 false [x]], k => bif decide (m = els.length) && decide (els.length ≤ 1000000000) then k ⟨.ro 29 false false (x :: els), [.dead, .dead], []⟩ else none
  | [.ro 29 true true [], .sc (.int .i64 0), .ow 29 0 [] 0 1 (some 1)], [.vec false 29 false [x]], k => k ⟨.ro 29 false false [x], [.vec false 29 false [x]], []⟩
  | _, _, _ => none
def s140' : Sig := { own := [true, false, true], run := run140' }
theorem ptr_no : tau.isPtr 29 = false := by kernel_rfl
theorem ok140' : CallOk tau Try.prog 140 s140' := CallOk.mk' fun xs es k res hl hr => by
  change run140' xs es k = some res at hr
  unfold run140' at hr
  split at hr
  · rename_i m els x
    obtain ⟨hc, hr2⟩ := of_bif hr
    simp only [Bool.and_eq_true, decide_eq_true_eq] at hc
    obtain ⟨rfl, hb⟩ := hc
    by_cases h0 : els = []
    · subst h0
      have h1 := (e140c 0 false x some)
      have h2 := fn_at tabOk F140c_ok mixed fo140c bo140c an140c [.ro] 2 0 (ia140c 0) hl rfl h1
      obtain ⟨r0, hr0, hc0⟩ := h2
      obtain rfl := Option.some.inj hr0
      refine ⟨_, hr2, fun im ow w us hus hi => (hc0 im ow w us hus hi).mono fun e w' hR => ?_⟩
      obtain ⟨u, im', ow', he, hv, G⟩ := hR
      refine ⟨u, im', ow', he, hv, ?_⟩
      have K := Good.kill (i := 1) (e := .vec false 29 false [x]) G.inv rfl
      have e1 : updH (entsOf [Ent.dead, .vec false 29 false [x]] []) 1 .dead = entsOf [.dead, .dead] [] := by
        funext i
        match i with
        | 0 => rfl
        | 1 => rfl
        | i + 2 => simp [updH, entsOf]
      rw [e1] at K
      exact G.trans K
    · obtain ⟨n, hn⟩ : ∃ n, els.length = n + 1 := ⟨els.length - 1, by have : 0 < els.length := List.length_pos_iff.2 h0; omega⟩
      refine reveal tabOk (by omega) ptr_no ptr_no hr2 fun c hc => ?_
      obtain ⟨r, hg, p0, p1, rfl⟩ := g_ins els n hn (by omega) c (by omega) x
      rw [hn]
      generalize els ++ List.replicate (c - (n + 1)) PV.top = L at hg ⊢
      refine ⟨p0, p1, ?_⟩
      have h1 := (e140 0 false L n c x some).trans hg
      exact fn_at tabOk F140_ok mixed fo140 bo140 an140 [.ro] 2 0 (ia140 0) hl rfl h1
  · rename_i x
    exact fn_at tabOk F140b_ok mixed fo140b bo140b an140b [.ro] 1 0 (ia140b 0) hl rfl ((e140b 0 x k).trans hr)
  · cases hr
end Go.Proofs.Ytcklhipdldpkhaa.Rx

namespace Go.Proofs.Ytcklhipdldpkhaa.Rx
open Go
set_option linter.unusedVariables false
set_option maxRecDepth 100000
set_option maxHeartbeats 0
noncomputable def F159 : Fns := F0
theorem F159_ok : FnsOk tau Try.prog F159 := F0_ok
def nm159_0 : Nm := [(0, .any), (2, .any), (3, .any), (5, .any)]
def x159_0 : An := (.seq .leaf (.seq (.cond .leaf .leaf) (.seq (.block none (.seq .leaf .leaf)) .leaf)))
def an159 : An := (.seq .leaf (.seq .leaf (.seq (.seq .leaf (.block none (.loop nm159_0 x159_0))) (.seq .leaf .leaf))))
noncomputable def g159 (f : Nat) (x : Int) (k : Res → Option Res) : Option Res := k (Res.mk (.ar 190 [.sc (.int .u8 x), .sc (.int .u8 x), .sc (.int .u8 x), .sc (.int .u8 x), .sc (.int .u8 x), .sc (.int .u8 x), .sc (.int .u8 x), .sc (.int .u8 x), .sc (.int .u8 x), .sc (.int .u8 x), .sc (.int .u8 x), .sc (.int .u8 x), .sc (.int .u8 x), .sc (.int .u8 x), .sc (.int .u8 x), .sc (.int .u8 x), .sc (.int .u8 x), .sc (.int .u8 x), .sc (.int .u8 x), .sc (.int .u8 x), .sc (.int .u8 x), .sc (.int .u8 x), .sc (.int .u8 x), .sc (.int .u8 x), .sc (.int .u8 x), .sc (.int .u8 x), .sc (.int .u8 x), .sc (.int .u8 x), .sc (.int .u8 x), .sc (.int .u8 x), .sc (.int .u8 x), .sc (.int .u8 x), .sc (.int .u8 x), .sc (.int .u8 x), .sc (.int .u8 x), .sc (.int .u8 x), .sc (.int .u8 x), .sc (.int .u8 x), .sc (.int .u8 x), .sc (.int .u8 x), .sc (.int .u8 x), .sc (.int .u8 x), .sc (.int .u8 x), .sc (.int .u8 x), .sc (.int .u8 x), .sc (.int .u8 x), .sc (.int .u8 x), .sc (.int .u8 x), .sc (.int .u8 x), .sc (.int .u8 x), .sc (.int .u8 x), .sc (.int .u8 x), .sc (.int .u8 x), .sc (.int .u8 x), .sc (.int .u8 x), .sc (.int .u8 x), .sc (.int .u8 x), .sc (.int .u8 x), .sc (.int .u8 x), .sc (.int .u8 x), .sc (.int .u8 x), .sc (.int .u8 x), .sc (.int .u8 x), .sc (.int .u8 x)]) [] [])
theorem e159 (f : Nat) (x : Int) (k : Res → Option Res) : evFn tau F159 Try.f159 (Try.f159.body.get!) an159 [.ro] 70 [.sc (.int .u8 x)] [] k = g159 f x k := by kernel_rfl
theorem it159 (f : Nat) : items (Try.f159.body.get!) an159 = [] := by kernel_rfl
theorem ia159 (f : Nat) : ∀ q ∈ items (Try.f159.body.get!) an159, q.Ok tau Try.prog 0 := by
  rw [it159 f]; intro q hq; cases hq
theorem fo159 : Try.prog.funcs[159]? = some Try.f159 := by kernel_rfl
theorem bo159 : Try.f159.body = some (Try.f159.body.get!) := by kernel_rfl
theorem en159 : Enters Try.prog 159 := enters_of fo159 (by kernel_rfl) bo159
noncomputable def run159 : List PV → List Ent → (Res → Option Res) → Option Res
  | [.sc (.int .u8 x)], [], k => g159 0 x k
  | _, _, _ => none
noncomputable def s159 : Sig := { own := [], run := run159 }
theorem ok159 : CallOk tau Try.prog 159 s159 := fn_ok tabOk F159_ok mixed fo159 bo159 an159 [.ro] 0 [] run159 (ia159 0) fun xs es k res hr => by
  unfold run159 at hr
  split at hr
  · exact ⟨rfl, 70, (e159 0 _  _).trans hr⟩
  · cases hr
end Go.Proofs.Ytcklhipdldpkhaa.Rx

namespace Go.Proofs.Ytcklhipdldpkhaa.Rx
open Go
set_option linter.unusedVariables false
set_option maxRecDepth 100000
set_option maxHeartbeats 0
def N141 : Nat := 26
noncomputable def F141 : Fns := addF 159 s159 (F0)
theorem F141_ok : FnsOk tau Try.prog F141 := (F0_ok).add ok159 en159
noncomputable def c141_0 : Code := subC (Try.f141.body.get!) [1, 1, 1, 0, 1, 0, 0]
def nm141_0 : Nm := [(2, .any), (5, .any), (13, .any)]
def nx141_0 : Nm := [(5, .any)]
def x141_0 : An := (.seq .leaf (.seq (.cond .leaf .leaf) (.seq (.block none (.seq .leaf .leaf)) .leaf)))
def an141 (r0 : RunL) : An := (.seq .leaf (.seq .leaf (.seq (.seq .leaf (.cond (.seq .leaf .leaf) .leaf)) (.seq (.seq .leaf (.block none (.sum nm141_0 N141 r0))) (.seq .leaf .leaf)))))
noncomputable def lpS141_0 (f : Nat) (rc : Int → List PV → List PV → Option Res) (k0 : List PV → Option Res) (v0 : Int) (v1 : List PV) (v2 : List PV) : Option Res := bif decide (v0 < 64) then bif decide (0 ≤ v0) && decide (v0 < zi 64) && true then bif PV.isInt IntKind.u8 (getP (PV.ar 190 v2) [v0.toNat]) && true then bif decide (0 ≤ v0) && decide (v0 < zi 64) && true then bif PV.isInt IntKind.u8 (getP (PV.ar 190 v1) [v0.toNat]) && true then bif decide (0 ≤ v0) && decide (v0 < zi 64) && true then rc (IntKind.i64.wrap (v0 + 1)) v1 (v2.set v0.toNat (.sc (.int .u8 (bitI BinOp.xor IntKind.u8 (getP (PV.ar 190 v2) [v0.toNat]).int (getP (PV.ar 190 v1) [v0.toNat]).int)))) else none else none else none else none else none else k0 v2
noncomputable def lp141_0 (f : Nat) (k0 : List PV → Option Res) : Nat → Int → List PV → List PV → Option Res
  | 0, _, _, _ => none
  | n + 1, v0, v1, v2 => lpS141_0 f (lp141_0 f k0 n) k0 v0 v1 v2
theorem lpR141_0 (f : Nat) (k : Kont) (n : Nat) (v0 : Int) (v1 : List PV) (v2 : List PV) : evLoop tau 0 nm141_0 (fun s k => ev tau F141 0 0 c141_0 (x141_0 ) s k) (n + 1) (fillS nm141_0 N141 [.ptr 432 [], .ptr 433 [], .sc (.int .i64 v0)] [(432, .box false 190 (PV.ar 190 v1)), (433, .box false 190 (PV.ar 190 v2))]) (kNorm tau 0 nx141_0 k) = lpS141_0 f (fun v0 v1 v2 => evLoop tau 0 nm141_0 (fun s k => ev tau F141 0 0 c141_0 (x141_0 ) s k) n (fillS nm141_0 N141 [.ptr 432 [], .ptr 433 [], .sc (.int .i64 v0)] [(432, .box false 190 (PV.ar 190 v1)), (433, .box false 190 (PV.ar 190 v2))]) (kNorm tau 0 nx141_0 k)) (fun x0 => k (Ex.exit 0) (fillS nx141_0 N141 [.ptr 432 []] [(432, .box false 190 (PV.ar 190 x0))])) v0 v1 v2 := by kernel_rfl
theorem lpE141_0 (f : Nat) (k : Kont) : ∀ (n : Nat) (v0 : Int) (v1 : List PV) (v2 : List PV), evLoop tau 0 nm141_0 (fun s k => ev tau F141 0 0 c141_0 (x141_0 ) s k) n (fillS nm141_0 N141 [.ptr 432 [], .ptr 433 [], .sc (.int .i64 v0)] [(432, .box false 190 (PV.ar 190 v1)), (433, .box false 190 (PV.ar 190 v2))]) (kNorm tau 0 nx141_0 k) = lp141_0 f (fun x0 => k (Ex.exit 0) (fillS nx141_0 N141 [.ptr 432 []] [(432, .box false 190 (PV.ar 190 x0))])) n v0 v1 v2 | 0, _, _, _ => rfl | n + 1, v0, v1, v2 => (lpR141_0 f k n v0 v1 v2).trans (congrArg (fun r => lpS141_0 f r (fun x0 => k (Ex.exit 0) (fillS nx141_0 N141 [.ptr 432 []] [(432, .box false 190 (PV.ar 190 x0))])) v0 v1 v2) (by funext v0 v1 v2; exact lpE141_0 f k n v0 v1 v2))
noncomputable def r141_0 (f : Nat) : List PV → List (Nat × Ent) → Kont → Option Res
  | [.ptr 432 [], .ptr 433 [],
  PV.sc
    (Value.int IntKind.i64
      v0)], [(432, .box false 190 (PV.ar 190 v1)),
  (433, .box false 190 (PV.ar 190 v2))], k => lp141_0 f (fun x0 => k (Ex.exit 0) (fillS nx141_0 N141 [.ptr 432 []] [(432, .box false 190 (PV.ar 190 x0))])) f v0 v1 v2
  | _, _, _ => none
theorem it141_0 (f : Nat) : items c141_0 x141_0 = [] := by kernel_rfl
theorem i141_0 (f : Nat) : (Item.l c141_0 nm141_0 N141 (r141_0 f)).Ok tau Try.prog 0 := loop_item tabOk F141_ok mixed (x := x141_0) (nm2 := nx141_0) (anOk_items _ _ (by rw [it141_0 f]; intro q hq; cases hq)) fun vs hp k res hr => by
  unfold r141_0 at hr
  split at hr
  · exact ⟨f, 0, (lpE141_0 f _ f _ _ _ ).trans hr⟩
  · cases hr
noncomputable def g141 (f : Nat) (k1 : List PV) (x : Int) (k : Res → Option Res) : Option Res := bif decide (k1.length = 64) && true && allInt IntKind.u8 k1 && true && true then bif eqInts k1 [.sc (.int .u8 0), .sc (.int .u8 0), .sc (.int .u8 0), .sc (.int .u8 0), .sc (.int .u8 0), .sc (.int .u8 0), .sc (.int .u8 0), .sc (.int .u8 0), .sc (.int .u8 0), .sc (.int .u8 0), .sc (.int .u8 0), .sc (.int .u8 0), .sc (.int .u8 0), .sc (.int .u8 0), .sc (.int .u8 0), .sc (.int .u8 0), .sc (.int .u8 0), .sc (.int .u8 0), .sc (.int .u8 0), .sc (.int .u8 0), .sc (.int .u8 0), .sc (.int .u8 0), .sc (.int .u8 0), .sc (.int .u8 0), .sc (.int .u8 0), .sc (.int .u8 0), .sc (.int .u8 0), .sc (.int .u8 0), .sc (.int .u8 0), .sc (.int .u8 0), .sc (.int .u8 0), .sc (.int .u8 0), .sc (.int .u8 0), .sc (.int .u8 0), .sc (.int .u8 0), .sc (.int .u8 0), .sc (.int .u8 0), .sc (.int .u8 0), .sc (.int .u8 0), .sc (.int .u8 0), .sc (.int .u8 0), .sc (.int .u8 0), .sc (.int .u8 0), .sc (.int .u8 0), .sc (.int .u8 0), .sc (.int .u8 0), .sc (.int .u8 0), .sc (.int .u8 0), .sc (.int .u8 0), .sc (.int .u8 0), .sc (.int .u8 0), .sc (.int .u8 0), .sc (.int .u8 0), .sc (.int .u8 0), .sc (.int .u8 0), .sc (.int .u8 0), .sc (.int .u8 0), .sc (.int .u8 0), .sc (.int .u8 0), .sc (.int .u8 0), .sc (.int .u8 0), .sc (.int .u8 0), .sc (.int .u8 0), .sc (.int .u8 0)] then k (Res.mk (.ro 5 false false [.sc (.int .u8 x), .sc (.int .u8 x), .sc (.int .u8 x), .sc (.int .u8 x), .sc (.int .u8 x), .sc (.int .u8 x), .sc (.int .u8 x), .sc (.int .u8 x), .sc (.int .u8 x), .sc (.int .u8 x), .sc (.int .u8 x), .sc (.int .u8 x), .sc (.int .u8 x), .sc (.int .u8 x), .sc (.int .u8 x), .sc (.int .u8 x), .sc (.int .u8 x), .sc (.int .u8 x), .sc (.int .u8 x), .sc (.int .u8 x), .sc (.int .u8 x), .sc (.int .u8 x), .sc (.int .u8 x), .sc (.int .u8 x), .sc (.int .u8 x), .sc (.int .u8 x), .sc (.int .u8 x), .sc (.int .u8 x), .sc (.int .u8 x), .sc (.int .u8 x), .sc (.int .u8 x), .sc (.int .u8 x), .sc (.int .u8 x), .sc (.int .u8 x), .sc (.int .u8 x), .sc (.int .u8 x), .sc (.int .u8 x), .sc (.int .u8 x), .sc (.int .u8 x), .sc (.int .u8 x), .sc (.int .u8 x), .sc (.int .u8 x), .sc (.int .u8 x), .sc (.int .u8 x), .sc (.int .u8 x), .sc (.int .u8 x), .sc (.int .u8 x), .sc (.int .u8 x), .sc (.int .u8 x), .sc (.int .u8 x), .sc (.int .u8 x), .sc (.int .u8 x), .sc (.int .u8 x), .sc (.int .u8 x), .sc (.int .u8 x), .sc (.int .u8 x), .sc (.int .u8 x), .sc (.int .u8 x), .sc (.int .u8 x), .sc (.int .u8 x), .sc (.int .u8 x), .sc (.int .u8 x), .sc (.int .u8 x), .sc (.int .u8 x)]) [] []) else lp141_0 f (fun x0_0 => k (Res.mk (.ro 5 false false (List.take 64 x0_0)) [] [])) f (0) k1 ([.sc (.int .u8 x), .sc (.int .u8 x), .sc (.int .u8 x), .sc (.int .u8 x), .sc (.int .u8 x), .sc (.int .u8 x), .sc (.int .u8 x), .sc (.int .u8 x), .sc (.int .u8 x), .sc (.int .u8 x), .sc (.int .u8 x), .sc (.int .u8 x), .sc (.int .u8 x), .sc (.int .u8 x), .sc (.int .u8 x), .sc (.int .u8 x), .sc (.int .u8 x), .sc (.int .u8 x), .sc (.int .u8 x), .sc (.int .u8 x), .sc (.int .u8 x), .sc (.int .u8 x), .sc (.int .u8 x), .sc (.int .u8 x), .sc (.int .u8 x), .sc (.int .u8 x), .sc (.int .u8 x), .sc (.int .u8 x), .sc (.int .u8 x), .sc (.int .u8 x), .sc (.int .u8 x), .sc (.int .u8 x), .sc (.int .u8 x), .sc (.int .u8 x), .sc (.int .u8 x), .sc (.int .u8 x), .sc (.int .u8 x), .sc (.int .u8 x), .sc (.int .u8 x), .sc (.int .u8 x), .sc (.int .u8 x), .sc (.int .u8 x), .sc (.int .u8 x), .sc (.int .u8 x), .sc (.int .u8 x), .sc (.int .u8 x), .sc (.int .u8 x), .sc (.int .u8 x), .sc (.int .u8 x), .sc (.int .u8 x), .sc (.int .u8 x), .sc (.int .u8 x), .sc (.int .u8 x), .sc (.int .u8 x), .sc (.int .u8 x), .sc (.int .u8 x), .sc (.int .u8 x), .sc (.int .u8 x), .sc (.int .u8 x), .sc (.int .u8 x), .sc (.int .u8 x), .sc (.int .u8 x), .sc (.int .u8 x), .sc (.int .u8 x)]) else none
theorem e141 (f : Nat) (k1 : List PV) (x : Int) (k : Res → Option Res) : evFn tau F141 Try.f141 (Try.f141.body.get!) (an141 (r141_0 f)) [.ro] 0 [.ar 190 k1, .sc (.int .u8 x)] [] k = g141 f k1 x k := by kernel_rfl
theorem it141 (f : Nat) : items (Try.f141.body.get!) (an141 (r141_0 f)) = [.l c141_0 nm141_0 N141 (r141_0 f)] := by kernel_rfl
theorem ia141 (f : Nat) : ∀ q ∈ items (Try.f141.body.get!) (an141 (r141_0 f)), q.Ok tau Try.prog 0 := by
  rw [it141 f]; simp only [List.forall_mem_cons, List.not_mem_nil, false_implies, implies_true, and_true]; exact i141_0 f
theorem fo141 : Try.prog.funcs[141]? = some Try.f141 := by kernel_rfl
theorem bo141 : Try.f141.body = some (Try.f141.body.get!) := by kernel_rfl
theorem en141 : Enters Try.prog 141 := enters_of fo141 (by kernel_rfl) bo141
end Go.Proofs.Ytcklhipdldpkhaa.Rx

-- FN (hmac.block).turned
namespace Go.Proofs.Ytcklhipdldpkhaa.Rx
open Go
set_option linter.unusedVariables false
set_option linter.unusedSimpArgs false
set_option maxRecDepth 100000
set_option maxHeartbeats 1000000
def xorB (l : List Int) (x : Int) : List Int := l.map fun b => bitI .xor .u8 b x
@[simp] theorem xorB_length (l : List Int) (x : Int) : (xorB l x).length = l.length := by simp [xorB]
theorem fill_xor (K : List Int) (hK : K.length = 64) (x : Int) : (List.range 64).map (fun j => bitI .xor .u8 x (K.getD j 0)) = xorB K x := by
  apply List.ext_getElem
  · simp [hK]
  · intro i h1 h2
    have h1' : i < K.length := by simpa using h2
    simp only [List.getElem_map, List.getElem_range, xorB]
    rw [bitI_xor_comm, List.getD_eq_getElem?_getD, List.getElem?_eq_getElem h1']; rfl
theorem l141_0 (K : List Int) (hK : K.length = 64) (x : Int) (f : Nat) (k0 : List PV → Option Res) : ∀ (d i n : Nat), i + d = 64 → d < n →
    lp141_0 f k0 n (i : Int) (pu .u8 K) (pu .u8 (fillM (fun j => bitI .xor .u8 x (K.getD j 0)) (List.replicate 64 x) i)) = k0 (pu .u8 (xorB K x))
  | 0, i, n + 1, h, hn => by
      obtain rfl : i = 64 := by omega
      simp only [lp141_0, lpS141_0]
      refine (bif_f (by decide)).trans ?_
      have := fillM_full (fun j => bitI .xor .u8 x (K.getD j 0)) (List.replicate 64 x)
      rw [List.length_replicate] at this
      rw [this, fill_xor K hK]
  | d + 1, i, n + 1, h, hn => by
      have g1 : ((i : Int)).toNat = i := by omega
      have h1 : IntKind.i64.wrap ((i : Int) + 1) = ((i + 1 : Nat) : Int) := by rw [wrap_i64 (by omega) (by omega)]; omega
      have c0 : (decide (0 ≤ (i : Int)) && decide ((i : Int) < zi 64) && true) = true := by simp; omega
      have hF := fillM_length (fun j => bitI .xor .u8 x (K.getD j 0)) (List.replicate 64 x) i (by simp; omega)
      rw [List.length_replicate] at hF
      simp only [lp141_0, lpS141_0, g1, h1, getP_ar]
      rw [pu_isInt (by omega), pu_isInt (by omega), pu_int (by omega), pu_int (by omega), fillM_get _ _ _ (by simp; omega), pu_set]
      refine (bif_t (by simp; omega)).trans ((bif_t c0).trans ((bif_t rfl).trans ((bif_t c0).trans ((bif_t rfl).trans ((bif_t c0).trans ?_)))))
      have := l141_0 K hK x f k0 d (i + 1) n (by omega) (by omega)
      rw [← fillM_set _ _ i (by simp; omega)] at this
      rw [show (List.replicate 64 x).getD i 0 = x from by rw [List.getD_eq_getElem?_getD, List.getElem?_replicate, if_pos (by omega)]; rfl]
      exact this
theorem xor0 : xorB (List.replicate 64 0) 54 = List.replicate 64 54 ∧ xorB (List.replicate 64 0) 92 = List.replicate 64 92 := by
  have h1 : bitI .xor .u8 0 54 = 54 := by decide
  have h2 : bitI .xor .u8 0 92 = 92 := by decide
  simp only [xorB, List.map_replicate, h1, h2, and_self]
theorem g141_form (l : List PV) (x : Int) (k : Res → Option Res) : g141 70 l x k =
    (bif decide (l.length = 64) && true && allInt IntKind.u8 l && true && true then
      (bif eqInts l (pu .u8 (List.replicate 64 0)) then k ⟨.ro 5 false false (pu .u8 (List.replicate 64 x)), [], []⟩
      else lp141_0 70 (fun x0_0 => k (Res.mk (PV.ro 5 false false (List.take 64 x0_0)) [] [])) 70 0 l (pu .u8 (List.replicate 64 x)))
    else none) := by kernel_rfl
theorem g141_eq (K : List Int) (hK : K.length = 64) (x : Int) (hx : x = 54 ∨ x = 92) (k : Res → Option Res) : g141 70 (pu .u8 K) x k = k ⟨.ro 5 false false (pu .u8 (xorB K x)), [], []⟩ := by
  have h0 := l141_0 K hK x 70 (fun x0_0 => k (Res.mk (PV.ro 5 false false (List.take 64 x0_0)) [] [])) 64 0 70 (by omega) (by omega)
  rw [fillM_zero, List.take_of_length_le (by simp [hK])] at h0
  rw [g141_form, bif_t (by simp [hK]), eqInts_pu]
  by_cases hk : K = List.replicate 64 0
  · have h1 : xorB K x = List.replicate 64 x := by
      rw [hk]
      rcases hx with h | h
      · rw [h]; exact xor0.1
      · rw [h]; exact xor0.2
    rw [bif_t (beq_iff_eq.2 hk), h1]
  · rw [bif_f (beq_eq_false_iff_ne.2 hk)]
    exact h0
def run141' : List PV → List Ent → (Res → Option Res) → Option Res
  | [.ar 190 l, .sc (.int .u8 x)], [], k => bif allInt .u8 l && decide (l.length = 64) && (x == 54 || x == 92) then k ⟨.ro 5 false false (pu .u8 (xorB (ints l) x)), [], []⟩ else none
  | _, _, _ => none
def s141' : Sig := { own := [], run := run141' }
theorem ok141' : CallOk tau Try.prog 141 s141' := CallOk.mk' fun xs es k res hl hr => by
  change run141' xs es k = some res at hr
  unfold run141' at hr
  split at hr
  · rename_i l x
    obtain ⟨hc, hr2⟩ := of_bif hr
    simp only [Bool.and_eq_true, decide_eq_true_eq, Bool.or_eq_true, beq_iff_eq] at hc
    have hp := pu_ints hc.1.1
    have h2 : g141 70 l x k = some res := by
      rw [hp, g141_eq _ (by simpa using hc.1.2) x hc.2]; exact hr2
    have h1 := (e141 70 l x k).trans h2
    exact fn_at tabOk F141_ok mixed fo141 bo141 (an141 (r141_0 70)) [.ro] 0 0 (ia141 70) hl rfl h1
  · cases hr
end Go.Proofs.Ytcklhipdldpkhaa.Rx

namespace Go.Proofs.Ytcklhipdldpkhaa.Rx
open Go
set_option linter.unusedVariables false
set_option maxRecDepth 100000
set_option maxHeartbeats 0
noncomputable abbrev z80 : List PV := [PV.sc (.int .u8 0), PV.sc (.int .u8 0), PV.sc (.int .u8 0), PV.sc (.int .u8 0), PV.sc (.int .u8 0), PV.sc (.int .u8 0), PV.sc (.int .u8 0), PV.sc (.int .u8 0), PV.sc (.int .u8 0), PV.sc (.int .u8 0), PV.sc (.int .u8 0), PV.sc (.int .u8 0), PV.sc (.int .u8 0), PV.sc (.int .u8 0), PV.sc (.int .u8 0), PV.sc (.int .u8 0), PV.sc (.int .u8 0), PV.sc (.int .u8 0), PV.sc (.int .u8 0), PV.sc (.int .u8 0), PV.sc (.int .u8 0), PV.sc (.int .u8 0), PV.sc (.int .u8 0), PV.sc (.int .u8 0), PV.sc (.int .u8 0), PV.sc (.int .u8 0), PV.sc (.int .u8 0), PV.sc (.int .u8 0), PV.sc (.int .u8 0), PV.sc (.int .u8 0), PV.sc (.int .u8 0), PV.sc (.int .u8 0), PV.sc (.int .u8 0), PV.sc (.int .u8 0), PV.sc (.int .u8 0), PV.sc (.int .u8 0), PV.sc (.int .u8 0), PV.sc (.int .u8 0), PV.sc (.int .u8 0), PV.sc (.int .u8 0), PV.sc (.int .u8 0), PV.sc (.int .u8 0), PV.sc (.int .u8 0), PV.sc (.int .u8 0), PV.sc (.int .u8 0), PV.sc (.int .u8 0), PV.sc (.int .u8 0), PV.sc (.int .u8 0), PV.sc (.int .u8 0), PV.sc (.int .u8 0), PV.sc (.int .u8 0), PV.sc (.int .u8 0), PV.sc (.int .u8 0), PV.sc (.int .u8 0), PV.sc (.int .u8 0), PV.sc (.int .u8 0), PV.sc (.int .u8 0), PV.sc (.int .u8 0), PV.sc (.int .u8 0), PV.sc (.int .u8 0), PV.sc (.int .u8 0), PV.sc (.int .u8 0), PV.sc (.int .u8 0), PV.sc (.int .u8 0)]
noncomputable def F80 : Fns := addF 141 s141' (addF 140 s140' (addF 136 s136 (addF 27 s27' (F0))))
theorem F80_ok : FnsOk tau Try.prog F80 := ((((F0_ok).add ok27' en27).add ok136 en136).add ok140' en140).add ok141' en141
def an80 : An := (.seq .leaf (.seq (.seq .leaf (.cond (.seq .leaf .leaf) .leaf)) (.seq .leaf (.seq .leaf (.seq .leaf (.seq .leaf .leaf))))))
noncomputable def g80 (f : Nat) (key_z : Bool) (key_f : Bool) (key : List PV) (parts_z : Bool) (parts_f : Bool) (parts : List PV) (k : Res → Option Res) : Option Res := bif decide (zi key.length > 64) then bif allInt IntKind.u8 (flat [PV.ro 5 key_z key_f key]) && decide ((flat [PV.ro 5 key_z key_f key]).length ≤ 140737488355000) then bif parts_z then bif allInt IntKind.u8 (List.take 64 (List.take 32 (pu IntKind.u8 (sumP (ints (flat [PV.ro 5 key_z key_f key]))))) ++ List.drop (0 + min (List.take 32 (pu IntKind.u8 (sumP (ints (flat [PV.ro 5 key_z key_f key]))))).length 64) z80) && decide ((List.take 64 (List.take 32 (pu IntKind.u8 (sumP (ints (flat [PV.ro 5 key_z key_f key]))))) ++ List.drop (0 + min (List.take 32 (pu IntKind.u8 (sumP (ints (flat [PV.ro 5 key_z key_f key]))))).length 64) z80).length = 64) && true then bif allInt IntKind.u8 (flat [PV.ro 5 false false (pu IntKind.u8 (xorB (ints (List.take 64 (List.take 32 (pu IntKind.u8 (sumP (ints (flat [PV.ro 5 key_z key_f key]))))) ++ List.drop (0 + min (List.take 32 (pu IntKind.u8 (sumP (ints (flat [PV.ro 5 key_z key_f key]))))).length 64) z80)) 54))]) && decide ((flat [PV.ro 5 false false (pu IntKind.u8 (xorB (ints (List.take 64 (List.take 32 (pu IntKind.u8 (sumP (ints (flat [PV.ro 5 key_z key_f key]))))) ++ List.drop (0 + min (List.take 32 (pu IntKind.u8 (sumP (ints (flat [PV.ro 5 key_z key_f key]))))).length 64) z80)) 54))]).length ≤ 140737488355000) then bif allInt IntKind.u8 (List.take 64 (List.take 32 (pu IntKind.u8 (sumP (ints (flat [PV.ro 5 key_z key_f key]))))) ++ List.drop (0 + min (List.take 32 (pu IntKind.u8 (sumP (ints (flat [PV.ro 5 key_z key_f key]))))).length 64) z80) && decide ((List.take 64 (List.take 32 (pu IntKind.u8 (sumP (ints (flat [PV.ro 5 key_z key_f key]))))) ++ List.drop (0 + min (List.take 32 (pu IntKind.u8 (sumP (ints (flat [PV.ro 5 key_z key_f key]))))).length 64) z80).length = 64) && true then bif allInt IntKind.u8 (flat [PV.ro 5 false false (pu IntKind.u8 (xorB (ints (List.take 64 (List.take 32 (pu IntKind.u8 (sumP (ints (flat [PV.ro 5 key_z key_f key]))))) ++ List.drop (0 + min (List.take 32 (pu IntKind.u8 (sumP (ints (flat [PV.ro 5 key_z key_f key]))))).length 64) z80)) 92)), PV.ro 5 false false (List.take 32 (pu IntKind.u8 (sumP (ints (flat [PV.ro 5 false false (pu IntKind.u8 (xorB (ints (List.take 64 (List.take 32 (pu IntKind.u8 (sumP (ints (flat [PV.ro 5 key_z key_f key]))))) ++ List.drop (0 + min (List.take 32 (pu IntKind.u8 (sumP (ints (flat [PV.ro 5 key_z key_f key]))))).length 64) z80)) 54))])))))]) && decide ((flat [PV.ro 5 false false (pu IntKind.u8 (xorB (ints (List.take 64 (List.take 32 (pu IntKind.u8 (sumP (ints (flat [PV.ro 5 key_z key_f key]))))) ++ List.drop (0 + min (List.take 32 (pu IntKind.u8 (sumP (ints (flat [PV.ro 5 key_z key_f key]))))).length 64) z80)) 92)), PV.ro 5 false false (List.take 32 (pu IntKind.u8 (sumP (ints (flat [PV.ro 5 false false (pu IntKind.u8 (xorB (ints (List.take 64 (List.take 32 (pu IntKind.u8 (sumP (ints (flat [PV.ro 5 key_z key_f key]))))) ++ List.drop (0 + min (List.take 32 (pu IntKind.u8 (sumP (ints (flat [PV.ro 5 key_z key_f key]))))).length 64) z80)) 54))])))))]).length ≤ 140737488355000) then k (Res.mk (PV.ar 37 (pu IntKind.u8 (sumP (ints (flat [PV.ro 5 false false (pu IntKind.u8 (xorB (ints (List.take 64 (List.take 32 (pu IntKind.u8 (sumP (ints (flat [PV.ro 5 key_z key_f key]))))) ++ List.drop (0 + min (List.take 32 (pu IntKind.u8 (sumP (ints (flat [PV.ro 5 key_z key_f key]))))).length 64) z80)) 92)), PV.ro 5 false false (List.take 32 (pu IntKind.u8 (sumP (ints (flat [PV.ro 5 false false (pu IntKind.u8 (xorB (ints (List.take 64 (List.take 32 (pu IntKind.u8 (sumP (ints (flat [PV.ro 5 key_z key_f key]))))) ++ List.drop (0 + min (List.take 32 (pu IntKind.u8 (sumP (ints (flat [PV.ro 5 key_z key_f key]))))).length 64) z80)) 54))])))))]))))) [] []) else none else none else none else none else bif roomy (0 + parts.length) 24 && true then bif allInt IntKind.u8 (List.take 64 (List.take 32 (pu IntKind.u8 (sumP (ints (flat [PV.ro 5 key_z key_f key]))))) ++ List.drop (0 + min (List.take 32 (pu IntKind.u8 (sumP (ints (flat [PV.ro 5 key_z key_f key]))))).length 64) z80) && decide ((List.take 64 (List.take 32 (pu IntKind.u8 (sumP (ints (flat [PV.ro 5 key_z key_f key]))))) ++ List.drop (0 + min (List.take 32 (pu IntKind.u8 (sumP (ints (flat [PV.ro 5 key_z key_f key]))))).length 64) z80).length = 64) && true then bif decide (0 + parts.length = parts.length) && decide (parts.length ≤ 1000000000) then bif parts.all (PV.isRo 5) && decide ((PV.ro 5 false false (pu IntKind.u8 (xorB (ints (List.take 64 (List.take 32 (pu IntKind.u8 (sumP (ints (flat [PV.ro 5 key_z key_f key]))))) ++ List.drop (0 + min (List.take 32 (pu IntKind.u8 (sumP (ints (flat [PV.ro 5 key_z key_f key]))))).length 64) z80)) 54)) :: parts).length ≤ 140737488355328) && (allInt IntKind.u8 (flat (PV.ro 5 false false (pu IntKind.u8 (xorB (ints (List.take 64 (List.take 32 (pu IntKind.u8 (sumP (ints (flat [PV.ro 5 key_z key_f key]))))) ++ List.drop (0 + min (List.take 32 (pu IntKind.u8 (sumP (ints (flat [PV.ro 5 key_z key_f key]))))).length 64) z80)) 54)) :: parts)) && decide ((flat (PV.ro 5 false false (pu IntKind.u8 (xorB (ints (List.take 64 (List.take 32 (pu IntKind.u8 (sumP (ints (flat [PV.ro 5 key_z key_f key]))))) ++ List.drop (0 + min (List.take 32 (pu IntKind.u8 (sumP (ints (flat [PV.ro 5 key_z key_f key]))))).length 64) z80)) 54)) :: parts)).length ≤ 140737488355000)) then bif allInt IntKind.u8 (List.take 64 (List.take 32 (pu IntKind.u8 (sumP (ints (flat [PV.ro 5 key_z key_f key]))))) ++ List.drop (0 + min (List.take 32 (pu IntKind.u8 (sumP (ints (flat [PV.ro 5 key_z key_f key]))))).length 64) z80) && decide ((List.take 64 (List.take 32 (pu IntKind.u8 (sumP (ints (flat [PV.ro 5 key_z key_f key]))))) ++ List.drop (0 + min (List.take 32 (pu IntKind.u8 (sumP (ints (flat [PV.ro 5 key_z key_f key]))))).length 64) z80).length = 64) && true then bif allInt IntKind.u8 (flat [PV.ro 5 false false (pu IntKind.u8 (xorB (ints (List.take 64 (List.take 32 (pu IntKind.u8 (sumP (ints (flat [PV.ro 5 key_z key_f key]))))) ++ List.drop (0 + min (List.take 32 (pu IntKind.u8 (sumP (ints (flat [PV.ro 5 key_z key_f key]))))).length 64) z80)) 92)), PV.ro 5 false false (List.take 32 (pu IntKind.u8 (sumP (ints (flat (PV.ro 5 false false (pu IntKind.u8 (xorB (ints (List.take 64 (List.take 32 (pu IntKind.u8 (sumP (ints (flat [PV.ro 5 key_z key_f key]))))) ++ List.drop (0 + min (List.take 32 (pu IntKind.u8 (sumP (ints (flat [PV.ro 5 key_z key_f key]))))).length 64) z80)) 54)) :: parts))))))]) && decide ((flat [PV.ro 5 false false (pu IntKind.u8 (xorB (ints (List.take 64 (List.take 32 (pu IntKind.u8 (sumP (ints (flat [PV.ro 5 key_z key_f key]))))) ++ List.drop (0 + min (List.take 32 (pu IntKind.u8 (sumP (ints (flat [PV.ro 5 key_z key_f key]))))).length 64) z80)) 92)), PV.ro 5 false false (List.take 32 (pu IntKind.u8 (sumP (ints (flat (PV.ro 5 false false (pu IntKind.u8 (xorB (ints (List.take 64 (List.take 32 (pu IntKind.u8 (sumP (ints (flat [PV.ro 5 key_z key_f key]))))) ++ List.drop (0 + min (List.take 32 (pu IntKind.u8 (sumP (ints (flat [PV.ro 5 key_z key_f key]))))).length 64) z80)) 54)) :: parts))))))]).length ≤ 140737488355000) then k (Res.mk (PV.ar 37 (pu IntKind.u8 (sumP (ints (flat [PV.ro 5 false false (pu IntKind.u8 (xorB (ints (List.take 64 (List.take 32 (pu IntKind.u8 (sumP (ints (flat [PV.ro 5 key_z key_f key]))))) ++ List.drop (0 + min (List.take 32 (pu IntKind.u8 (sumP (ints (flat [PV.ro 5 key_z key_f key]))))).length 64) z80)) 92)), PV.ro 5 false false (List.take 32 (pu IntKind.u8 (sumP (ints (flat (PV.ro 5 false false (pu IntKind.u8 (xorB (ints (List.take 64 (List.take 32 (pu IntKind.u8 (sumP (ints (flat [PV.ro 5 key_z key_f key]))))) ++ List.drop (0 + min (List.take 32 (pu IntKind.u8 (sumP (ints (flat [PV.ro 5 key_z key_f key]))))).length 64) z80)) 54)) :: parts))))))]))))) [] []) else none else none else none else none else none else none else none else bif parts_z then bif allInt IntKind.u8 (List.take 64 key ++ List.drop (0 + min key.length 64) z80) && decide ((List.take 64 key ++ List.drop (0 + min key.length 64) z80).length = 64) && true then bif allInt IntKind.u8 (flat [PV.ro 5 false false (pu IntKind.u8 (xorB (ints (List.take 64 key ++ List.drop (0 + min key.length 64) z80)) 54))]) && decide ((flat [PV.ro 5 false false (pu IntKind.u8 (xorB (ints (List.take 64 key ++ List.drop (0 + min key.length 64) z80)) 54))]).length ≤ 140737488355000) then bif allInt IntKind.u8 (List.take 64 key ++ List.drop (0 + min key.length 64) z80) && decide ((List.take 64 key ++ List.drop (0 + min key.length 64) z80).length = 64) && true then bif allInt IntKind.u8 (flat [PV.ro 5 false false (pu IntKind.u8 (xorB (ints (List.take 64 key ++ List.drop (0 + min key.length 64) z80)) 92)), PV.ro 5 false false (List.take 32 (pu IntKind.u8 (sumP (ints (flat [PV.ro 5 false false (pu IntKind.u8 (xorB (ints (List.take 64 key ++ List.drop (0 + min key.length 64) z80)) 54))])))))]) && decide ((flat [PV.ro 5 false false (pu IntKind.u8 (xorB (ints (List.take 64 key ++ List.drop (0 + min key.length 64) z80)) 92)), PV.ro 5 false false (List.take 32 (pu IntKind.u8 (sumP (ints (flat [PV.ro 5 false false (pu IntKind.u8 (xorB (ints (List.take 64 key ++ List.drop (0 + min key.length 64) z80)) 54))])))))]).length ≤ 140737488355000) then k (Res.mk (PV.ar 37 (pu IntKind.u8 (sumP (ints (flat [PV.ro 5 false false (pu IntKind.u8 (xorB (ints (List.take 64 key ++ List.drop (0 + min key.length 64) z80)) 92)), PV.ro 5 false false (List.take 32 (pu IntKind.u8 (sumP (ints (flat [PV.ro 5 false false (pu IntKind.u8 (xorB (ints (List.take 64 key ++ List.drop (0 + min key.length 64) z80)) 54))])))))]))))) [] []) else none else none else none else none else bif roomy (0 + parts.length) 24 && true then bif allInt IntKind.u8 (List.take 64 key ++ List.drop (0 + min key.length 64) z80) && decide ((List.take 64 key ++ List.drop (0 + min key.length 64) z80).length = 64) && true then bif decide (0 + parts.length = parts.length) && decide (parts.length ≤ 1000000000) then bif parts.all (PV.isRo 5) && decide ((PV.ro 5 false false (pu IntKind.u8 (xorB (ints (List.take 64 key ++ List.drop (0 + min key.length 64) z80)) 54)) :: parts).length ≤ 140737488355328) && (allInt IntKind.u8 (flat (PV.ro 5 false false (pu IntKind.u8 (xorB (ints (List.take 64 key ++ List.drop (0 + min key.length 64) z80)) 54)) :: parts)) && decide ((flat (PV.ro 5 false false (pu IntKind.u8 (xorB (ints (List.take 64 key ++ List.drop (0 + min key.length 64) z80)) 54)) :: parts)).length ≤ 140737488355000)) then bif allInt IntKind.u8 (List.take 64 key ++ List.drop (0 + min key.length 64) z80) && decide ((List.take 64 key ++ List.drop (0 + min key.length 64) z80).length = 64) && true then bif allInt IntKind.u8 (flat [PV.ro 5 false false (pu IntKind.u8 (xorB (ints (List.take 64 key ++ List.drop (0 + min key.length 64) z80)) 92)), PV.ro 5 false false (List.take 32 (pu IntKind.u8 (sumP (ints (flat (PV.ro 5 false false (pu IntKind.u8 (xorB (ints (List.take 64 key ++ List.drop (0 + min key.length 64) z80)) 54)) :: parts))))))]) && decide ((flat [PV.ro 5 false false (pu IntKind.u8 (xorB (ints (List.take 64 key ++ List.drop (0 + min key.length 64) z80)) 92)), PV.ro 5 false false (List.take 32 (pu IntKind.u8 (sumP (ints (flat (PV.ro 5 false false (pu IntKind.u8 (xorB (ints (List.take 64 key ++ List.drop (0 + min key.length 64) z80)) 54)) :: parts))))))]).length ≤ 140737488355000) then k (Res.mk (PV.ar 37 (pu IntKind.u8 (sumP (ints (flat [PV.ro 5 false false (pu IntKind.u8 (xorB (ints (List.take 64 key ++ List.drop (0 + min key.length 64) z80)) 92)), PV.ro 5 false false (List.take 32 (pu IntKind.u8 (sumP (ints (flat (PV.ro 5 false false (pu IntKind.u8 (xorB (ints (List.take 64 key ++ List.drop (0 + min key.length 64) z80)) 54)) :: parts))))))]))))) [] []) else none else none else none else none else none else none
theorem e80 (f : Nat) (key_z : Bool) (key_f : Bool) (key : List PV) (parts_z : Bool) (parts_f : Bool) (parts : List PV) (k : Res → Option Res) : evFn tau F80 Try.f80 (Try.f80.body.get!) an80 [.ro] 0 [.ro 5 key_z key_f key, .ro 29 parts_z parts_f parts] [] k = g80 f key_z key_f key parts_z parts_f parts k := by kernel_rfl
theorem it80 (f : Nat) : items (Try.f80.body.get!) an80 = [] := by kernel_rfl
theorem ia80 (f : Nat) : ∀ q ∈ items (Try.f80.body.get!) an80, q.Ok tau Try.prog 0 := by
  rw [it80 f]; intro q hq; cases hq
theorem fo80 : Try.prog.funcs[80]? = some Try.f80 := by kernel_rfl
theorem bo80 : Try.f80.body = some (Try.f80.body.get!) := by kernel_rfl
theorem en80 : Enters Try.prog 80 := enters_of fo80 (by kernel_rfl) bo80
noncomputable def run80 : List PV → List Ent → (Res → Option Res) → Option Res
  | [.ro 5 key_z key_f key, .ro 29 parts_z parts_f parts], [], k => g80 0 key_z key_f key parts_z parts_f parts k
  | _, _, _ => none
noncomputable def s80 : Sig := { own := [], run := run80 }
theorem ok80 : CallOk tau Try.prog 80 s80 := fn_ok tabOk F80_ok mixed fo80 bo80 an80 [.ro] 0 [] run80 (ia80 0) fun xs es k res hr => by
  unfold run80 at hr
  split at hr
  · exact ⟨rfl, 0, (e80 0 _ _ _ _ _ _  _).trans hr⟩
  · cases hr
end Go.Proofs.Ytcklhipdldpkhaa.Rx

-- FN hmac.Mac
namespace Go.Proofs.Ytcklhipdldpkhaa.Rx
open Go
set_option linter.unusedVariables false
set_option linter.unusedSimpArgs false
set_option maxRecDepth 100000
set_option maxHeartbeats 1000000
theorem ints_append (a b : List PV) : ints (a ++ b) = ints a ++ ints b := by simp [ints]
@[simp] theorem ints_nil : ints [] = [] := rfl
/-- a key, with noughts behind it -/
def padK (s : List Int) : List Int := s ++ List.replicate (64 - s.length) 0
def keyB (key : List Int) : List Int := if key.length > 64 then padK (sumP key) else padK key
def macP0 (key text : List Int) : List Int := sumP (xorB (keyB key) 92 ++ sumP (xorB (keyB key) 54 ++ text))
noncomputable def macP : List Int → List Int → List Int := hid macP0
theorem macP_eq (key text : List Int) : macP key text = macP0 key text := by rw [macP, hid_eq]
theorem macP_length (key text : List Int) : (macP key text).length = 32 := by rw [macP_eq]; exact sumP_length _
theorem keyB_length (key : List Int) : (keyB key).length = 64 := by
  unfold keyB padK
  split
  · rw [List.length_append, sumP_length, List.length_replicate]
  · rw [List.length_append, List.length_replicate]; omega
def x54 (kb : List PV) : PV := .ro 5 false false (pu .u8 (xorB (ints kb) 54))
def x92 (kb : List PV) : PV := .ro 5 false false (pu .u8 (xorB (ints kb) 92))
def t32 (l : List PV) : PV := .ro 5 false false (List.take 32 (pu .u8 (sumP (ints (flat l)))))
def kbG (src : List PV) : List PV := [] ++ List.take 64 src ++ List.drop (0 + min src.length 64) (pu .u8 (List.replicate 64 0))
def macForm (pz : Bool) (parts kb : List PV) (k : Res → Option Res) : Option Res :=
  bif pz then
    bif allInt .u8 kb && decide (kb.length = 64) && true then
      bif allInt .u8 (flat [x54 kb]) && decide ((flat [x54 kb]).length ≤ 140737488355000) then
        bif allInt .u8 kb && decide (kb.length = 64) && true then
          bif allInt .u8 (flat [x92 kb, t32 [x54 kb]]) && decide ((flat [x92 kb, t32 [x54 kb]]).length ≤ 140737488355000) then
            k ⟨.ar 37 (pu .u8 (sumP (ints (flat [x92 kb, t32 [x54 kb]])))), [], []⟩
          else none
        else none
      else none
    else none
  else bif roomy (0 + parts.length) 24 && true then
    bif allInt .u8 kb && decide (kb.length = 64) && true then
      bif decide (0 + parts.length = ([] ++ parts).length) && decide (([] ++ parts).length ≤ 1000000000) then
        bif ([] ++ parts).all (PV.isRo 5) && decide ((x54 kb :: ([] ++ parts)).length ≤ 140737488355328) && (allInt .u8 (flat (x54 kb :: ([] ++ parts))) && decide ((flat (x54 kb :: ([] ++ parts))).length ≤ 140737488355000)) then
          bif allInt .u8 kb && decide (kb.length = 64) && true then
            bif allInt .u8 (flat [x92 kb, t32 (x54 kb :: ([] ++ parts))]) && decide ((flat [x92 kb, t32 (x54 kb :: ([] ++ parts))]).length ≤ 140737488355000) then
              k ⟨.ar 37 (pu .u8 (sumP (ints (flat [x92 kb, t32 (x54 kb :: ([] ++ parts))])))), [], []⟩
            else none
          else none
        else none
      else none
    else none
  else none
theorem g80_form (kz kf : Bool) (key : List PV) (pz pf : Bool) (parts : List PV) (k : Res → Option Res) : g80 0 kz kf key pz pf parts k =
    (bif decide (zi key.length > 64) then
      bif allInt .u8 (flat [.ro 5 kz kf key]) && decide ((flat [.ro 5 kz kf key]).length ≤ 140737488355000) then
        macForm pz parts (kbG (List.take 32 (pu .u8 (sumP (ints (flat [.ro 5 kz kf key])))))) k
      else none
    else macForm pz parts (kbG key) k) := by kernel_rfl
theorem kbG_pu (s : List Int) (h : s.length ≤ 64) : kbG (pu .u8 s) = pu .u8 (padK s) := by
  unfold kbG padK
  rw [pu_length, show 0 + min s.length 64 = s.length from by omega, pu_drop, List.drop_replicate, List.take_of_length_le (by simpa using h), List.nil_append, ← pu_append]
theorem macForm_eq (K : List Int) (hK : K.length = 64) (pz : Bool) (parts : List PV) (hz : pz = true → parts = []) (h1 : parts.all (PV.isRo 5) = true) (h2 : parts.length ≤ 1000000) (h3 : allInt .u8 (flat parts) = true) (h4 : (flat parts).length ≤ 1000000000) (k : Res → Option Res) :
    macForm pz parts (pu .u8 K) k = k ⟨.ar 37 (pu .u8 (sumP (xorB K 92 ++ sumP (xorB K 54 ++ ints (flat parts))))), [], []⟩ := by
  have hk : (allInt .u8 (pu .u8 K) && decide ((pu .u8 K).length = 64) && true) = true := by simp [hK]
  have e54 : x54 (pu .u8 K) = .ro 5 false false (pu .u8 (xorB K 54)) := by simp [x54]
  have e92 : x92 (pu .u8 K) = .ro 5 false false (pu .u8 (xorB K 92)) := by simp [x92]
  have hS : ∀ l : List Int, List.take 32 (pu .u8 (sumP l)) = pu .u8 (sumP l) := fun l => List.take_of_length_le (by simp [sumP_length])
  cases pz with
  | true =>
    have := hz rfl; subst this
    have et : t32 [x54 (pu .u8 K)] = .ro 5 false false (pu .u8 (sumP (xorB K 54))) := by simp [t32, e54, PV.els, hS]
    unfold macForm
    rw [cond_true, bif_t hk, bif_t (by simp [e54, PV.els, hK]), bif_t hk, et, e92, bif_t (by simp [PV.els, hK, allInt_append, sumP_length])]
    simp [PV.els, ints_append]
  | false =>
    have et : t32 (x54 (pu .u8 K) :: ([] ++ parts)) = .ro 5 false false (pu .u8 (sumP (xorB K 54 ++ ints (flat parts)))) := by
      rw [List.nil_append, t32, e54, flat_cons, hS]
      simp only [PV.els]
      rw [ints_append, ints_pu]
    unfold macForm
    have hp : (pu IntKind.u8 K).length = 64 := by simp [hK]
    rw [cond_false, bif_t (by simp [roomy]; omega), bif_t hk, bif_t (by simp; omega), bif_t, bif_t hk, et, e92, bif_t (by simp [PV.els, hK, allInt_append, sumP_length])]
    · simp [PV.els, ints_append]
    · rw [e54]
      simp only [List.nil_append, flat_cons, PV.els, h1, allInt_append, allInt_pu, h3, List.length_cons, List.length_append, pu_length, xorB_length, hK, Bool.true_and, Bool.and_true, Bool.and_eq_true, decide_eq_true_eq]
      omega
noncomputable def run80' : List PV → List Ent → (Res → Option Res) → Option Res
  | [.ro 5 kz kf key, .ro 29 pz pf parts], [], k =>
    bif (allInt .u8 key && decide (key.length ≤ 1000000000)) && ((parts.all (PV.isRo 5) && decide (parts.length ≤ 1000000)) && (allInt .u8 (flat parts) && decide ((flat parts).length ≤ 1000000000))) && (!pz || parts.isEmpty) then
      k ⟨.ar 37 (pu .u8 (macP (ints key) (ints (flat parts)))), [], []⟩ else none
  | _, _, _ => none
noncomputable def s80' : Sig := { own := [], run := run80' }
theorem g80_eq (kz kf : Bool) (key : List PV) (pz pf : Bool) (parts : List PV) (k : Res → Option Res) (a1 : allInt .u8 key = true) (a2 : key.length ≤ 1000000000) (h1 : parts.all (PV.isRo 5) = true) (h2 : parts.length ≤ 1000000) (h3 : allInt .u8 (flat parts) = true) (h4 : (flat parts).length ≤ 1000000000) (hz : pz = true → parts = []) :
    g80 0 kz kf key pz pf parts k = k ⟨.ar 37 (pu .u8 (macP (ints key) (ints (flat parts)))), [], []⟩ := by
  rw [g80_form, macP_eq, macP0]
  have hf : flat [.ro 5 kz kf key] = key := by simp [PV.els]
  have hi := pu_ints a1
  by_cases hc : key.length > 64
  · rw [bif_t (by simp [zi]; omega), hf, bif_t (by simp [a1]; omega), List.take_of_length_le (by simp [sumP_length]), kbG_pu _ (by rw [sumP_length]; omega),
      macForm_eq _ (by rw [← keyB_length (ints key), keyB, if_pos (by simpa using hc)]) pz parts hz h1 h2 h3 h4, keyB, if_pos (by simpa using hc)]
  · have hl : (ints key).length ≤ 64 := by simp; omega
    rw [bif_f (by simp [zi]; omega), hi, kbG_pu _ hl, ints_pu, macForm_eq _ (by rw [← keyB_length (ints key), keyB, if_neg (by omega)]) pz parts hz h1 h2 h3 h4, keyB, if_neg (by omega)]
theorem ok80' : CallOk tau Try.prog 80 s80' := ok80.of fun xs es k res hr => by
  change run80' xs es k = some res at hr
  unfold run80' at hr
  split at hr
  · rename_i kz kf key pz pf parts
    obtain ⟨hc, hr⟩ := of_bif hr
    simp only [Bool.and_eq_true, decide_eq_true_eq, Bool.or_eq_true, Bool.not_eq_true', List.isEmpty_iff] at hc
    obtain ⟨⟨⟨a1, a2⟩, ⟨h1, h2⟩, h3, h4⟩, hz⟩ := hc
    exact (g80_eq kz kf key pz pf parts k a1 a2 h1 h2 h3 h4 (fun hp => hz.resolve_left (by rw [hp]; decide))).trans hr
  · cases hr
end Go.Proofs.Ytcklhipdldpkhaa.Rx

namespace Go.Proofs.Ytcklhipdldpkhaa.Rx
open Go
set_option linter.unusedVariables false
set_option maxRecDepth 100000
set_option maxHeartbeats 0
end Go.Proofs.Ytcklhipdldpkhaa.Rx

-- FN wire.Parse
namespace Go.Proofs.Ytcklhipdldpkhaa.Rx
open Go
set_option linter.unusedVariables false
set_option linter.unusedSimpArgs false
set_option maxRecDepth 100000
set_option maxHeartbeats 1000000
structure PA where
  (l : List PV) (b : List PV)
def kOk (l : List PV) : Bool := allInt .u8 l && decide (l.length ≤ 1000000000)
theorem keyF_ok {z0 f0 z1 f1 z2 f2 : Bool} {k0 k1 k2 : List PV} (h0 : kOk k0 = true) (h1 : kOk k1 = true) (h2 : kOk k2 = true) (d : Int) : kOk (keyF ⟨[.ro 5 z0 f0 k0, .ro 5 z1 f1 k1, .ro 5 z2 f2 k2], d⟩) = true := by
  rw [keyF_eq]
  show kOk (keyF0 _ d).els = true
  unfold keyF0
  cases h : innB d 2 with
  | false => rfl
  | true =>
    simp only [innB, Bool.and_eq_true, decide_eq_true_eq] at h
    have : d = 0 ∨ d = 1 ∨ d = 2 := by omega
    rcases this with rfl | rfl | rfl
    · exact h0
    · exact h1
    · exact h2
end Go.Proofs.Ytcklhipdldpkhaa.Rx

namespace Go.Proofs.Ytcklhipdldpkhaa.Rx
open Go
set_option linter.unusedVariables false
set_option maxRecDepth 100000
set_option maxHeartbeats 0
theorem fo96 : Try.prog.funcs[96]? = some Try.f96 := by kernel_rfl
theorem bo96 : Try.f96.body = some (Try.f96.body.get!) := by kernel_rfl
theorem en96 : Enters Try.prog 96 := enters_of fo96 (by kernel_rfl) bo96
end Go.Proofs.Ytcklhipdldpkhaa.Rx

namespace Go.Proofs.Ytcklhipdldpkhaa.Rx
open Go
set_option linter.unusedVariables false
set_option maxRecDepth 100000
set_option maxHeartbeats 0
theorem fo98 : Try.prog.funcs[98]? = some Try.f98 := by kernel_rfl
theorem bo98 : Try.f98.body = some (Try.f98.body.get!) := by kernel_rfl
theorem en98 : Enters Try.prog 98 := enters_of fo98 (by kernel_rfl) bo98
end Go.Proofs.Ytcklhipdldpkhaa.Rx

namespace Go.Proofs.Ytcklhipdldpkhaa.Rx
open Go
set_option linter.unusedVariables false
set_option maxRecDepth 100000
set_option maxHeartbeats 0
noncomputable def F131b : Fns := F0
theorem F131b_ok : FnsOk tau Try.prog F131b := F0_ok
def an131b : An := (.seq .leaf (.seq (.seq .leaf (.cond (.seq .leaf .leaf) .leaf)) (.seq .leaf .leaf)))
noncomputable def g131b (f : Nat) (s_z : Bool) (s_f : Bool) (s : List PV) (k : Res → Option Res) : Option Res := bif s_z then k (Res.mk (.ro 5 true true []) [] []) else bif roomy (0 + s.length) 1 && true then k (Res.mk (.ow 5 16 [] 0 (0 + s.length) none) [] [.vec false 5 false s]) else none
theorem e131b (f : Nat) (s_z : Bool) (s_f : Bool) (s : List PV) (k : Res → Option Res) : evFn tau F131b Try.f131 (Try.f131.body.get!) an131b [] 0 [.ro 5 s_z s_f s] [] k = g131b f s_z s_f s k := by kernel_rfl
theorem it131b (f : Nat) : items (Try.f131.body.get!) an131b = [] := by kernel_rfl
theorem ia131b (f : Nat) : ∀ q ∈ items (Try.f131.body.get!) an131b, q.Ok tau Try.prog 0 := by
  rw [it131b f]; intro q hq; cases hq
theorem fo131b : Try.prog.funcs[131]? = some Try.f131 := by kernel_rfl
theorem bo131b : Try.f131.body = some (Try.f131.body.get!) := by kernel_rfl
theorem en131b : Enters Try.prog 131 := enters_of fo131b (by kernel_rfl) bo131b
noncomputable def run131b : List PV → List Ent → (Res → Option Res) → Option Res
  | [.ro 5 s_z s_f s], [], k => g131b 0 s_z s_f s k
  | _, _, _ => none
noncomputable def s131b : Sig := { own := [], run := run131b }
theorem ok131b : CallOk tau Try.prog 131 s131b := fn_ok tabOk F131b_ok mixed fo131b bo131b an131b [] 0 [] run131b (ia131b 0) fun xs es k res hr => by
  unfold run131b at hr
  split at hr
  · exact ⟨rfl, 0, (e131b 0 _ _ _  _).trans hr⟩
  · cases hr
end Go.Proofs.Ytcklhipdldpkhaa.Rx

namespace Go.Proofs.Ytcklhipdldpkhaa.Rx
open Go
set_option linter.unusedVariables false
set_option maxRecDepth 100000
set_option maxHeartbeats 0
noncomputable def F97 : Fns := addF 131 s131b (F0)
theorem F97_ok : FnsOk tau Try.prog F97 := (F0_ok).add ok131b en131b
def nm97_0 : Nm := [(0, .any), (1, .any), (5, .own), (6, .any)]
def x97_0 : An := (.seq .leaf (.seq .leaf (.seq .leaf (.seq .leaf (.seq (.seq .leaf (.seq .leaf (.cond .leaf .leaf))) (.seq .leaf .leaf))))))
def an97 : An := (.seq .leaf (.scope nm97_0 x97_0))
noncomputable def g97 (f : Nat) (b_z : Bool) (b_f : Bool) (b : List PV) (n : Int) (k : Res → Option Res) : Option Res := bif b_z then k (Res.mk (.ro 5 false false [.sc (.int .u8 (IntKind.u8.wrap (shrI IntKind.u64 (IntKind.u64.wrap n) (IntKind.i64.wrap (8 * 0))))), .sc (.int .u8 (IntKind.u8.wrap (shrI IntKind.u64 (IntKind.u64.wrap n) (IntKind.i64.wrap (8 * IntKind.i64.wrap (0 + 1)))))), .sc (.int .u8 (IntKind.u8.wrap (shrI IntKind.u64 (IntKind.u64.wrap n) (IntKind.i64.wrap (8 * IntKind.i64.wrap (IntKind.i64.wrap (0 + 1) + 1)))))), .sc (.int .u8 (IntKind.u8.wrap (shrI IntKind.u64 (IntKind.u64.wrap n) (IntKind.i64.wrap (8 * IntKind.i64.wrap (IntKind.i64.wrap (IntKind.i64.wrap (0 + 1) + 1) + 1)))))), .sc (.int .u8 (IntKind.u8.wrap (shrI IntKind.u64 (IntKind.u64.wrap n) (IntKind.i64.wrap (8 * IntKind.i64.wrap (IntKind.i64.wrap (IntKind.i64.wrap (IntKind.i64.wrap (0 + 1) + 1) + 1) + 1)))))), .sc (.int .u8 (IntKind.u8.wrap (shrI IntKind.u64 (IntKind.u64.wrap n) (IntKind.i64.wrap (8 * IntKind.i64.wrap (IntKind.i64.wrap (IntKind.i64.wrap (IntKind.i64.wrap (IntKind.i64.wrap (0 + 1) + 1) + 1) + 1) + 1)))))), .sc (.int .u8 (IntKind.u8.wrap (shrI IntKind.u64 (IntKind.u64.wrap n) (IntKind.i64.wrap (8 * IntKind.i64.wrap (IntKind.i64.wrap (IntKind.i64.wrap (IntKind.i64.wrap (IntKind.i64.wrap (IntKind.i64.wrap (0 + 1) + 1) + 1) + 1) + 1) + 1)))))), .sc (.int .u8 (IntKind.u8.wrap (shrI IntKind.u64 (IntKind.u64.wrap n) (IntKind.i64.wrap (8 * IntKind.i64.wrap (IntKind.i64.wrap (IntKind.i64.wrap (IntKind.i64.wrap (IntKind.i64.wrap (IntKind.i64.wrap (IntKind.i64.wrap (0 + 1) + 1) + 1) + 1) + 1) + 1) + 1))))))]) [] []) else bif roomy (0 + b.length) 1 && true then bif roomy (0 + b.length + 1) 1 && true then bif roomy (0 + b.length + 1 + 1) 1 && true then bif roomy (0 + b.length + 1 + 1 + 1) 1 && true then bif roomy (0 + b.length + 1 + 1 + 1 + 1) 1 && true then bif roomy (0 + b.length + 1 + 1 + 1 + 1 + 1) 1 && true then bif roomy (0 + b.length + 1 + 1 + 1 + 1 + 1 + 1) 1 && true then bif roomy (0 + b.length + 1 + 1 + 1 + 1 + 1 + 1 + 1) 1 && true then bif roomy (0 + b.length + 1 + 1 + 1 + 1 + 1 + 1 + 1 + 1) 1 && true then bif roomy (0 + (List.take (0 + b.length + 1 + 1 + 1 + 1 + 1 + 1 + 1 + 1) (List.take (0 + b.length + 1 + 1 + 1 + 1 + 1 + 1 + 1) (List.take (0 + b.length + 1 + 1 + 1 + 1 + 1 + 1) (List.take (0 + b.length + 1 + 1 + 1 + 1 + 1) (List.take (0 + b.length + 1 + 1 + 1 + 1) (List.take (0 + b.length + 1 + 1 + 1) (List.take (0 + b.length + 1 + 1) (List.take (0 + b.length + 1) (List.take (0 + b.length) b ++ [.sc (.int .u8 (IntKind.u8.wrap (shrI IntKind.u64 (IntKind.u64.wrap n) (IntKind.i64.wrap (8 * 0)))))]) ++ [.sc (.int .u8 (IntKind.u8.wrap (shrI IntKind.u64 (IntKind.u64.wrap n) (IntKind.i64.wrap (8 * IntKind.i64.wrap (0 + 1))))))]) ++ [.sc (.int .u8 (IntKind.u8.wrap (shrI IntKind.u64 (IntKind.u64.wrap n) (IntKind.i64.wrap (8 * IntKind.i64.wrap (IntKind.i64.wrap (0 + 1) + 1))))))]) ++ [.sc (.int .u8 (IntKind.u8.wrap (shrI IntKind.u64 (IntKind.u64.wrap n) (IntKind.i64.wrap (8 * IntKind.i64.wrap (IntKind.i64.wrap (IntKind.i64.wrap (0 + 1) + 1) + 1))))))]) ++ [.sc (.int .u8 (IntKind.u8.wrap (shrI IntKind.u64 (IntKind.u64.wrap n) (IntKind.i64.wrap (8 * IntKind.i64.wrap (IntKind.i64.wrap (IntKind.i64.wrap (IntKind.i64.wrap (0 + 1) + 1) + 1) + 1))))))]) ++ [.sc (.int .u8 (IntKind.u8.wrap (shrI IntKind.u64 (IntKind.u64.wrap n) (IntKind.i64.wrap (8 * IntKind.i64.wrap (IntKind.i64.wrap (IntKind.i64.wrap (IntKind.i64.wrap (IntKind.i64.wrap (0 + 1) + 1) + 1) + 1) + 1))))))]) ++ [.sc (.int .u8 (IntKind.u8.wrap (shrI IntKind.u64 (IntKind.u64.wrap n) (IntKind.i64.wrap (8 * IntKind.i64.wrap (IntKind.i64.wrap (IntKind.i64.wrap (IntKind.i64.wrap (IntKind.i64.wrap (IntKind.i64.wrap (0 + 1) + 1) + 1) + 1) + 1) + 1))))))]) ++ [.sc (.int .u8 (IntKind.u8.wrap (shrI IntKind.u64 (IntKind.u64.wrap n) (IntKind.i64.wrap (8 * IntKind.i64.wrap (IntKind.i64.wrap (IntKind.i64.wrap (IntKind.i64.wrap (IntKind.i64.wrap (IntKind.i64.wrap (IntKind.i64.wrap (0 + 1) + 1) + 1) + 1) + 1) + 1) + 1))))))])).length) 1 && true then k (Res.mk (.ro 5 false false (List.take (0 + (List.take (0 + b.length + 1 + 1 + 1 + 1 + 1 + 1 + 1 + 1) (List.take (0 + b.length + 1 + 1 + 1 + 1 + 1 + 1 + 1) (List.take (0 + b.length + 1 + 1 + 1 + 1 + 1 + 1) (List.take (0 + b.length + 1 + 1 + 1 + 1 + 1) (List.take (0 + b.length + 1 + 1 + 1 + 1) (List.take (0 + b.length + 1 + 1 + 1) (List.take (0 + b.length + 1 + 1) (List.take (0 + b.length + 1) (List.take (0 + b.length) b ++ [.sc (.int .u8 (IntKind.u8.wrap (shrI IntKind.u64 (IntKind.u64.wrap n) (IntKind.i64.wrap (8 * 0)))))]) ++ [.sc (.int .u8 (IntKind.u8.wrap (shrI IntKind.u64 (IntKind.u64.wrap n) (IntKind.i64.wrap (8 * IntKind.i64.wrap (0 + 1))))))]) ++ [.sc (.int .u8 (IntKind.u8.wrap (shrI IntKind.u64 (IntKind.u64.wrap n) (IntKind.i64.wrap (8 * IntKind.i64.wrap (IntKind.i64.wrap (0 + 1) + 1))))))]) ++ [.sc (.int .u8 (IntKind.u8.wrap (shrI IntKind.u64 (IntKind.u64.wrap n) (IntKind.i64.wrap (8 * IntKind.i64.wrap (IntKind.i64.wrap (IntKind.i64.wrap (0 + 1) + 1) + 1))))))]) ++ [.sc (.int .u8 (IntKind.u8.wrap (shrI IntKind.u64 (IntKind.u64.wrap n) (IntKind.i64.wrap (8 * IntKind.i64.wrap (IntKind.i64.wrap (IntKind.i64.wrap (IntKind.i64.wrap (0 + 1) + 1) + 1) + 1))))))]) ++ [.sc (.int .u8 (IntKind.u8.wrap (shrI IntKind.u64 (IntKind.u64.wrap n) (IntKind.i64.wrap (8 * IntKind.i64.wrap (IntKind.i64.wrap (IntKind.i64.wrap (IntKind.i64.wrap (IntKind.i64.wrap (0 + 1) + 1) + 1) + 1) + 1))))))]) ++ [.sc (.int .u8 (IntKind.u8.wrap (shrI IntKind.u64 (IntKind.u64.wrap n) (IntKind.i64.wrap (8 * IntKind.i64.wrap (IntKind.i64.wrap (IntKind.i64.wrap (IntKind.i64.wrap (IntKind.i64.wrap (IntKind.i64.wrap (0 + 1) + 1) + 1) + 1) + 1) + 1))))))]) ++ [.sc (.int .u8 (IntKind.u8.wrap (shrI IntKind.u64 (IntKind.u64.wrap n) (IntKind.i64.wrap (8 * IntKind.i64.wrap (IntKind.i64.wrap (IntKind.i64.wrap (IntKind.i64.wrap (IntKind.i64.wrap (IntKind.i64.wrap (IntKind.i64.wrap (0 + 1) + 1) + 1) + 1) + 1) + 1) + 1))))))])).length) (List.take (0 + b.length + 1 + 1 + 1 + 1 + 1 + 1 + 1 + 1) (List.take (0 + b.length + 1 + 1 + 1 + 1 + 1 + 1 + 1) (List.take (0 + b.length + 1 + 1 + 1 + 1 + 1 + 1) (List.take (0 + b.length + 1 + 1 + 1 + 1 + 1) (List.take (0 + b.length + 1 + 1 + 1 + 1) (List.take (0 + b.length + 1 + 1 + 1) (List.take (0 + b.length + 1 + 1) (List.take (0 + b.length + 1) (List.take (0 + b.length) b ++ [.sc (.int .u8 (IntKind.u8.wrap (shrI IntKind.u64 (IntKind.u64.wrap n) (IntKind.i64.wrap (8 * 0)))))]) ++ [.sc (.int .u8 (IntKind.u8.wrap (shrI IntKind.u64 (IntKind.u64.wrap n) (IntKind.i64.wrap (8 * IntKind.i64.wrap (0 + 1))))))]) ++ [.sc (.int .u8 (IntKind.u8.wrap (shrI IntKind.u64 (IntKind.u64.wrap n) (IntKind.i64.wrap (8 * IntKind.i64.wrap (IntKind.i64.wrap (0 + 1) + 1))))))]) ++ [.sc (.int .u8 (IntKind.u8.wrap (shrI IntKind.u64 (IntKind.u64.wrap n) (IntKind.i64.wrap (8 * IntKind.i64.wrap (IntKind.i64.wrap (IntKind.i64.wrap (0 + 1) + 1) + 1))))))]) ++ [.sc (.int .u8 (IntKind.u8.wrap (shrI IntKind.u64 (IntKind.u64.wrap n) (IntKind.i64.wrap (8 * IntKind.i64.wrap (IntKind.i64.wrap (IntKind.i64.wrap (IntKind.i64.wrap (0 + 1) + 1) + 1) + 1))))))]) ++ [.sc (.int .u8 (IntKind.u8.wrap (shrI IntKind.u64 (IntKind.u64.wrap n) (IntKind.i64.wrap (8 * IntKind.i64.wrap (IntKind.i64.wrap (IntKind.i64.wrap (IntKind.i64.wrap (IntKind.i64.wrap (0 + 1) + 1) + 1) + 1) + 1))))))]) ++ [.sc (.int .u8 (IntKind.u8.wrap (shrI IntKind.u64 (IntKind.u64.wrap n) (IntKind.i64.wrap (8 * IntKind.i64.wrap (IntKind.i64.wrap (IntKind.i64.wrap (IntKind.i64.wrap (IntKind.i64.wrap (IntKind.i64.wrap (0 + 1) + 1) + 1) + 1) + 1) + 1))))))]) ++ [.sc (.int .u8 (IntKind.u8.wrap (shrI IntKind.u64 (IntKind.u64.wrap n) (IntKind.i64.wrap (8 * IntKind.i64.wrap (IntKind.i64.wrap (IntKind.i64.wrap (IntKind.i64.wrap (IntKind.i64.wrap (IntKind.i64.wrap (IntKind.i64.wrap (0 + 1) + 1) + 1) + 1) + 1) + 1) + 1))))))])))) [] []) else none else none else none else none else none else none else none else none else none else none
theorem e97 (f : Nat) (b_z : Bool) (b_f : Bool) (b : List PV) (n : Int) (k : Res → Option Res) : evFn tau F97 Try.f97 (Try.f97.body.get!) an97 [.ro] 12 [.ro 5 b_z b_f b, .sc (.int .i64 n)] [] k = g97 f b_z b_f b n k := by kernel_rfl
theorem it97 (f : Nat) : items (Try.f97.body.get!) an97 = [] := by kernel_rfl
theorem ia97 (f : Nat) : ∀ q ∈ items (Try.f97.body.get!) an97, q.Ok tau Try.prog 0 := by
  rw [it97 f]; intro q hq; cases hq
theorem fo97 : Try.prog.funcs[97]? = some Try.f97 := by kernel_rfl
theorem bo97 : Try.f97.body = some (Try.f97.body.get!) := by kernel_rfl
theorem en97 : Enters Try.prog 97 := enters_of fo97 (by kernel_rfl) bo97
end Go.Proofs.Ytcklhipdldpkhaa.Rx

namespace Go.Proofs.Ytcklhipdldpkhaa.Rx
open Go
set_option linter.unusedVariables false
set_option maxRecDepth 100000
set_option maxHeartbeats 0
noncomputable def F110 : Fns := F0
theorem F110_ok : FnsOk tau Try.prog F110 := F0_ok
def an110 : An := (.seq .leaf (.seq .leaf .leaf))
noncomputable def g110 (f : Nat) (n : Int) (k : Res → Option Res) : Option Res := k (Res.mk (.ow 5 16 [] 0 1 none) [] [.vec false 5 false [.sc (.int .u8 (IntKind.u8.wrap n))]])
theorem e110 (f : Nat) (n : Int) (k : Res → Option Res) : evFn tau F110 Try.f110 (Try.f110.body.get!) an110 [] 0 [.ro 5 true true [], .sc (.int .i64 n)] [] k = g110 f n k := by kernel_rfl
theorem it110 (f : Nat) : items (Try.f110.body.get!) an110 = [] := by kernel_rfl
theorem ia110 (f : Nat) : ∀ q ∈ items (Try.f110.body.get!) an110, q.Ok tau Try.prog 0 := by
  rw [it110 f]; intro q hq; cases hq
theorem fo110 : Try.prog.funcs[110]? = some Try.f110 := by kernel_rfl
theorem bo110 : Try.f110.body = some (Try.f110.body.get!) := by kernel_rfl
theorem en110 : Enters Try.prog 110 := enters_of fo110 (by kernel_rfl) bo110
end Go.Proofs.Ytcklhipdldpkhaa.Rx

namespace Go.Proofs.Ytcklhipdldpkhaa.Rx
open Go
set_option linter.unusedVariables false
set_option maxRecDepth 100000
set_option maxHeartbeats 0
noncomputable def F110b : Fns := F0
theorem F110b_ok : FnsOk tau Try.prog F110b := F0_ok
def an110b : An := (.seq .leaf (.seq .leaf .leaf))
noncomputable def g110b (f : Nat) (nl : Bool) (l : List PV) (m : Nat) (n : Int) (k : Res → Option Res) : Option Res := bif roomy (m + 1) 1 && true then k (Res.mk (.ow 5 16 [] 0 (m + 1) none) [.dead] [.vec false 5 (nl && false) (List.take m l ++ [.sc (.int .u8 (IntKind.u8.wrap n))])]) else none
theorem e110b (f : Nat) (nl : Bool) (l : List PV) (m : Nat) (n : Int) (k : Res → Option Res) : evFn tau F110b Try.f110 (Try.f110.body.get!) an110b [] 0 [.ow 5 0 [] 0 m none, .sc (.int .i64 n)] [.vec false 5 nl l] k = g110b f nl l m n k := by kernel_rfl
theorem it110b (f : Nat) : items (Try.f110.body.get!) an110b = [] := by kernel_rfl
theorem ia110b (f : Nat) : ∀ q ∈ items (Try.f110.body.get!) an110b, q.Ok tau Try.prog 1 := by
  rw [it110b f]; intro q hq; cases hq
theorem fo110b : Try.prog.funcs[110]? = some Try.f110 := by kernel_rfl
theorem bo110b : Try.f110.body = some (Try.f110.body.get!) := by kernel_rfl
end Go.Proofs.Ytcklhipdldpkhaa.Rx

namespace Go.Proofs.Ytcklhipdldpkhaa.Rx
open Go
set_option linter.unusedVariables false
set_option maxRecDepth 100000
set_option maxHeartbeats 0
noncomputable def F108 : Fns := F0
theorem F108_ok : FnsOk tau Try.prog F108 := F0_ok
def nm108_0 : Nm := [(0, .own), (1, .any), (5, .any)]
def x108_0 : An := (.seq (.seq .leaf (.cond .leaf .leaf)) (.seq (.block none .leaf) .leaf))
def an108 : An := (.seq .leaf (.seq (.seq .leaf (.block none (.loop nm108_0 x108_0))) (.seq .leaf .leaf)))
noncomputable def g108 (f : Nat) (n : Int) (k : Res → Option Res) : Option Res := k (Res.mk (.ow 5 16 [] 0 8 none) [] [.vec false 5 false [.sc (.int .u8 (IntKind.u8.wrap (shrI IntKind.u64 (IntKind.u64.wrap n) (IntKind.u64.wrap (8 * IntKind.u64.wrap 0))))), .sc (.int .u8 (IntKind.u8.wrap (shrI IntKind.u64 (IntKind.u64.wrap n) (IntKind.u64.wrap (8 * IntKind.u64.wrap (IntKind.i64.wrap (0 + 1))))))), .sc (.int .u8 (IntKind.u8.wrap (shrI IntKind.u64 (IntKind.u64.wrap n) (IntKind.u64.wrap (8 * IntKind.u64.wrap (IntKind.i64.wrap (IntKind.i64.wrap (0 + 1) + 1))))))), .sc (.int .u8 (IntKind.u8.wrap (shrI IntKind.u64 (IntKind.u64.wrap n) (IntKind.u64.wrap (8 * IntKind.u64.wrap (IntKind.i64.wrap (IntKind.i64.wrap (IntKind.i64.wrap (0 + 1) + 1) + 1))))))), .sc (.int .u8 (IntKind.u8.wrap (shrI IntKind.u64 (IntKind.u64.wrap n) (IntKind.u64.wrap (8 * IntKind.u64.wrap (IntKind.i64.wrap (IntKind.i64.wrap (IntKind.i64.wrap (IntKind.i64.wrap (0 + 1) + 1) + 1) + 1))))))), .sc (.int .u8 (IntKind.u8.wrap (shrI IntKind.u64 (IntKind.u64.wrap n) (IntKind.u64.wrap (8 * IntKind.u64.wrap (IntKind.i64.wrap (IntKind.i64.wrap (IntKind.i64.wrap (IntKind.i64.wrap (IntKind.i64.wrap (0 + 1) + 1) + 1) + 1) + 1))))))), .sc (.int .u8 (IntKind.u8.wrap (shrI IntKind.u64 (IntKind.u64.wrap n) (IntKind.u64.wrap (8 * IntKind.u64.wrap (IntKind.i64.wrap (IntKind.i64.wrap (IntKind.i64.wrap (IntKind.i64.wrap (IntKind.i64.wrap (IntKind.i64.wrap (0 + 1) + 1) + 1) + 1) + 1) + 1))))))), .sc (.int .u8 (IntKind.u8.wrap (shrI IntKind.u64 (IntKind.u64.wrap n) (IntKind.u64.wrap (8 * IntKind.u64.wrap (IntKind.i64.wrap (IntKind.i64.wrap (IntKind.i64.wrap (IntKind.i64.wrap (IntKind.i64.wrap (IntKind.i64.wrap (IntKind.i64.wrap (0 + 1) + 1) + 1) + 1) + 1) + 1) + 1)))))))]])
theorem e108 (f : Nat) (n : Int) (k : Res → Option Res) : evFn tau F108 Try.f108 (Try.f108.body.get!) an108 [] 12 [.ro 5 true true [], .sc (.int .i64 n)] [] k = g108 f n k := by kernel_rfl
theorem it108 (f : Nat) : items (Try.f108.body.get!) an108 = [] := by kernel_rfl
theorem ia108 (f : Nat) : ∀ q ∈ items (Try.f108.body.get!) an108, q.Ok tau Try.prog 0 := by
  rw [it108 f]; intro q hq; cases hq
theorem fo108 : Try.prog.funcs[108]? = some Try.f108 := by kernel_rfl
theorem bo108 : Try.f108.body = some (Try.f108.body.get!) := by kernel_rfl
theorem en108 : Enters Try.prog 108 := enters_of fo108 (by kernel_rfl) bo108
end Go.Proofs.Ytcklhipdldpkhaa.Rx

namespace Go.Proofs.Ytcklhipdldpkhaa.Rx
open Go
set_option linter.unusedVariables false
set_option maxRecDepth 100000
set_option maxHeartbeats 0
noncomputable def F108b : Fns := F0
theorem F108b_ok : FnsOk tau Try.prog F108b := F0_ok
def nm108b_0 : Nm := [(0, .own), (1, .any), (5, .any)]
def x108b_0 : An := (.seq (.seq .leaf (.cond .leaf .leaf)) (.seq (.block none .leaf) .leaf))
def an108b : An := (.seq .leaf (.seq (.seq .leaf (.block none (.loop nm108b_0 x108b_0))) (.seq .leaf .leaf)))
noncomputable def g108b (f : Nat) (nl : Bool) (l : List PV) (m : Nat) (n : Int) (k : Res → Option Res) : Option Res := bif roomy (m + 1) 1 && true then bif roomy (m + 1 + 1) 1 && true then bif roomy (m + 1 + 1 + 1) 1 && true then bif roomy (m + 1 + 1 + 1 + 1) 1 && true then bif roomy (m + 1 + 1 + 1 + 1 + 1) 1 && true then bif roomy (m + 1 + 1 + 1 + 1 + 1 + 1) 1 && true then bif roomy (m + 1 + 1 + 1 + 1 + 1 + 1 + 1) 1 && true then bif roomy (m + 1 + 1 + 1 + 1 + 1 + 1 + 1 + 1) 1 && true then k (Res.mk (.ow 5 16 [] 0 (m + 1 + 1 + 1 + 1 + 1 + 1 + 1 + 1) none) [.dead] [.vec false 5 (nl && false && false && false && false && false && false && false && false) (List.take (m + 1 + 1 + 1 + 1 + 1 + 1 + 1) (List.take (m + 1 + 1 + 1 + 1 + 1 + 1) (List.take (m + 1 + 1 + 1 + 1 + 1) (List.take (m + 1 + 1 + 1 + 1) (List.take (m + 1 + 1 + 1) (List.take (m + 1 + 1) (List.take (m + 1) (List.take m l ++ [.sc (.int .u8 (IntKind.u8.wrap (shrI IntKind.u64 (IntKind.u64.wrap n) (IntKind.u64.wrap (8 * IntKind.u64.wrap 0)))))]) ++ [.sc (.int .u8 (IntKind.u8.wrap (shrI IntKind.u64 (IntKind.u64.wrap n) (IntKind.u64.wrap (8 * IntKind.u64.wrap (IntKind.i64.wrap (0 + 1)))))))]) ++ [.sc (.int .u8 (IntKind.u8.wrap (shrI IntKind.u64 (IntKind.u64.wrap n) (IntKind.u64.wrap (8 * IntKind.u64.wrap (IntKind.i64.wrap (IntKind.i64.wrap (0 + 1) + 1)))))))]) ++ [.sc (.int .u8 (IntKind.u8.wrap (shrI IntKind.u64 (IntKind.u64.wrap n) (IntKind.u64.wrap (8 * IntKind.u64.wrap (IntKind.i64.wrap (IntKind.i64.wrap (IntKind.i64.wrap (0 + 1) + 1) + 1)))))))]) ++ [.sc (.int .u8 (IntKind.u8.wrap (shrI IntKind.u64 (IntKind.u64.wrap n) (IntKind.u64.wrap (8 * IntKind.u64.wrap (IntKind.i64.wrap (IntKind.i64.wrap (IntKind.i64.wrap (IntKind.i64.wrap (0 + 1) + 1) + 1) + 1)))))))]) ++ [.sc (.int .u8 (IntKind.u8.wrap (shrI IntKind.u64 (IntKind.u64.wrap n) (IntKind.u64.wrap (8 * IntKind.u64.wrap (IntKind.i64.wrap (IntKind.i64.wrap (IntKind.i64.wrap (IntKind.i64.wrap (IntKind.i64.wrap (0 + 1) + 1) + 1) + 1) + 1)))))))]) ++ [.sc (.int .u8 (IntKind.u8.wrap (shrI IntKind.u64 (IntKind.u64.wrap n) (IntKind.u64.wrap (8 * IntKind.u64.wrap (IntKind.i64.wrap (IntKind.i64.wrap (IntKind.i64.wrap (IntKind.i64.wrap (IntKind.i64.wrap (IntKind.i64.wrap (0 + 1) + 1) + 1) + 1) + 1) + 1)))))))]) ++ [.sc (.int .u8 (IntKind.u8.wrap (shrI IntKind.u64 (IntKind.u64.wrap n) (IntKind.u64.wrap (8 * IntKind.u64.wrap (IntKind.i64.wrap (IntKind.i64.wrap (IntKind.i64.wrap (IntKind.i64.wrap (IntKind.i64.wrap (IntKind.i64.wrap (IntKind.i64.wrap (0 + 1) + 1) + 1) + 1) + 1) + 1) + 1)))))))])]) else none else none else none else none else none else none else none else none
theorem e108b (f : Nat) (nl : Bool) (l : List PV) (m : Nat) (n : Int) (k : Res → Option Res) : evFn tau F108b Try.f108 (Try.f108.body.get!) an108b [] 12 [.ow 5 0 [] 0 m none, .sc (.int .i64 n)] [.vec false 5 nl l] k = g108b f nl l m n k := by kernel_rfl
theorem it108b (f : Nat) : items (Try.f108.body.get!) an108b = [] := by kernel_rfl
theorem ia108b (f : Nat) : ∀ q ∈ items (Try.f108.body.get!) an108b, q.Ok tau Try.prog 1 := by
  rw [it108b f]; intro q hq; cases hq
theorem fo108b : Try.prog.funcs[108]? = some Try.f108 := by kernel_rfl
theorem bo108b : Try.f108.body = some (Try.f108.body.get!) := by kernel_rfl
end Go.Proofs.Ytcklhipdldpkhaa.Rx

namespace Go.Proofs.Ytcklhipdldpkhaa.Rx
open Go
set_option linter.unusedVariables false
set_option maxRecDepth 100000
set_option maxHeartbeats 0
noncomputable def F109b : Fns := F0
theorem F109b_ok : FnsOk tau Try.prog F109b := F0_ok
def an109b : An := (.seq .leaf (.seq (.seq .leaf (.cond .leaf .leaf)) (.seq .leaf .leaf)))
noncomputable def g109b (f : Nat) (nl : Bool) (l : List PV) (m : Nat) (s : ByteArray) (k : Res → Option Res) : Option Res := bif decide (zi s.size > 65535) then bif decide (65535 ≤ s.size) && true then bif roomy (m + 2) 1 && true then bif roomy (m + 2 + (ofBytes (s.extract 0 65535)).length) 1 && true then k (Res.mk (.ow 5 16 [] 0 (m + 2 + (ofBytes (s.extract 0 65535)).length) none) [.dead] [.vec false 5 (nl && false && (ofBytes (s.extract 0 65535)).isEmpty) (List.take (m + 2) (List.take m l ++ [.sc (.int .u8 (IntKind.u8.wrap (zi (s.extract 0 65535).size))), .sc (.int .u8 (IntKind.u8.wrap (shrI IntKind.i64 (zi (s.extract 0 65535).size) 8)))]) ++ ofBytes (s.extract 0 65535))]) else none else none else none else bif roomy (m + 2) 1 && true then bif roomy (m + 2 + (ofBytes s).length) 1 && true then k (Res.mk (.ow 5 16 [] 0 (m + 2 + (ofBytes s).length) none) [.dead] [.vec false 5 (nl && false && (ofBytes s).isEmpty) (List.take (m + 2) (List.take m l ++ [.sc (.int .u8 (IntKind.u8.wrap (zi s.size))), .sc (.int .u8 (IntKind.u8.wrap (shrI IntKind.i64 (zi s.size) 8)))]) ++ ofBytes s)]) else none else none
theorem e109b (f : Nat) (nl : Bool) (l : List PV) (m : Nat) (s : ByteArray) (k : Res → Option Res) : evFn tau F109b Try.f109 (Try.f109.body.get!) an109b [] 0 [.ow 5 0 [] 0 m none, .sc (.string s)] [.vec false 5 nl l] k = g109b f nl l m s k := by kernel_rfl
theorem it109b (f : Nat) : items (Try.f109.body.get!) an109b = [] := by kernel_rfl
theorem ia109b (f : Nat) : ∀ q ∈ items (Try.f109.body.get!) an109b, q.Ok tau Try.prog 1 := by
  rw [it109b f]; intro q hq; cases hq
theorem fo109b : Try.prog.funcs[109]? = some Try.f109 := by kernel_rfl
theorem bo109b : Try.f109.body = some (Try.f109.body.get!) := by kernel_rfl
theorem en109b : Enters Try.prog 109 := enters_of fo109b (by kernel_rfl) bo109b
end Go.Proofs.Ytcklhipdldpkhaa.Rx

-- FN code.Byte | code.Text | code.Int | ref1.Byte | ref1.Int | ref1.Text
namespace Go.Proofs.Ytcklhipdldpkhaa.Rx
open Go
set_option linter.unusedVariables false
set_option linter.unusedSimpArgs false
set_option maxRecDepth 100000
set_option maxHeartbeats 1000000
def ib (n i : Int) : Int := IntKind.u8.wrap (shrI .u64 (IntKind.u64.wrap n) (8 * i))
def intB0 (n : Int) : List Int := [ib n 0, ib n 1, ib n 2, ib n 3, ib n 4, ib n 5, ib n 6, ib n 7]
noncomputable def intB : Int → List Int := hid intB0
theorem intB_eq (n : Int) : intB n = intB0 n := by rw [intB, hid_eq]
@[simp] theorem intB_length (n : Int) : (intB n).length = 8 := by rw [intB_eq]; rfl
/-- a text's bytes -/
def bsI0 (s : ByteArray) : List Int := s.data.toList.map fun b => (b.toNat : Int)
noncomputable def bsI : ByteArray → List Int := hid bsI0
theorem bsI_eq (s : ByteArray) : bsI s = bsI0 s := by rw [bsI, hid_eq]
theorem ofBytes_pu (s : ByteArray) : ofBytes s = pu .u8 (bsI s) := by rw [bsI_eq]; simp [ofBytes, pu, bsI0]
@[simp] theorem bsI_length (s : ByteArray) : (bsI s).length = s.size := by rw [bsI_eq]; simp [bsI0]
theorem bsI_by (s : ByteArray) : ∀ x ∈ bsI s, 0 ≤ x ∧ x < 256 := by
  intro x hx
  rw [bsI_eq] at hx
  obtain ⟨b, _, rfl⟩ := List.mem_map.1 hx
  have := b.toNat_lt
  omega
noncomputable def textB0 (s : ByteArray) : List Int := [IntKind.u8.wrap (zi s.size), IntKind.u8.wrap (shrI .i64 (zi s.size) 8)] ++ bsI s
noncomputable def textB : ByteArray → List Int := hid textB0
theorem textB_eq (s : ByteArray) : textB s = textB0 s := by rw [textB, hid_eq]
@[simp] theorem textB_length (s : ByteArray) : (textB s).length = s.size + 2 := by rw [textB_eq]; simp [textB0]
theorem wrap_by (x : Int) : 0 ≤ IntKind.u8.wrap x ∧ IntKind.u8.wrap x < 256 := by rw [wrap_u8_eq]; omega
theorem intB_by (n : Int) : ∀ x ∈ intB n, 0 ≤ x ∧ x < 256 := by
  rw [intB_eq]; intro x hx
  simp only [intB0, List.mem_cons, List.not_mem_nil, or_false] at hx
  rcases hx with h | h | h | h | h | h | h | h <;> (rw [h]; exact wrap_by _)
theorem textB_by (s : ByteArray) : ∀ x ∈ textB s, 0 ≤ x ∧ x < 256 := by
  rw [textB_eq]; intro x hx
  rcases List.mem_append.1 hx with hx | hx
  · simp only [List.mem_cons, List.not_mem_nil, or_false] at hx
    rcases hx with h | h <;> (rw [h]; exact wrap_by _)
  · exact bsI_by s x hx
theorem g97_nil (f : Bool) (b : List PV) (n : Int) (k : Res → Option Res) : g97 0 true f b n k = k ⟨.ro 5 false false (pu .u8 (intB n)), [], []⟩ := by
  rw [intB_eq]; kernel_rfl
theorem g97_b (f : Bool) (b : List PV) (hb : b.length ≤ 1000000000) (n : Int) (k : Res → Option Res) : g97 0 false f b n k = k ⟨.ro 5 false false (b ++ pu .u8 (intB n)), [], []⟩ := by
  rw [intB_eq]
  unfold g97
  refine (bif_f rfl).trans ?_
  repeat (refine (bif_t (by simp [roomy]; omega)).trans ?_)
  repeat rw [List.take_of_length_le (by simp <;> omega)]
  simp only [List.nil_append, List.append_assoc]
  rfl
noncomputable def run97' : List PV → List Ent → (Res → Option Res) → Option Res
  | [.ro 5 z f b, .sc (.int .i64 n)], [], k => bif slB z b then k ⟨.ro 5 false false (b ++ pu .u8 (intB n)), [], []⟩ else none
  | _, _, _ => none
noncomputable def s97' : Sig := { own := [], run := run97' }
theorem ok97' : CallOk tau Try.prog 97 s97' := CallOk.mk' fun xs es k res hl hr => by
  change run97' xs es k = some res at hr
  unfold run97' at hr
  split at hr
  · rename_i z f b n
    obtain ⟨hc, hr2⟩ := of_bif hr
    clear hr
    obtain ⟨h1, h2⟩ := slB_iff.1 hc
    have hg : g97 0 z f b n k = some res := by
      cases z with
      | true => obtain rfl := h1 rfl; rw [g97_nil]; exact hr2
      | false => rw [g97_b f b h2]; exact hr2
    exact fn_at tabOk F97_ok mixed fo97 bo97 an97 [.ro] 0 12 (ia97 0) hl rfl ((e97 0 z f b n k).trans hg)
  · cases hr
theorem extract_all (s : ByteArray) : s.extract 0 s.size = s := by
  apply ByteArray.ext
  simp [ByteArray.data_extract]
noncomputable def run110' : List PV → List Ent → (Res → Option Res) → Option Res
  | [.ro 5 true true [], .sc (.int .i64 n)], [], k => k ⟨.ow 5 16 [] 0 1 none, [], [.vec false 5 false (pu .u8 [IntKind.u8.wrap n])]⟩
  | [.ow 5 0 [] 0 m none, .sc (.int .i64 n)], [.vec false 5 nl l], k => bif Nat.beq m l.length && Nat.ble l.length 1000000000 then k ⟨.ow 5 16 [] 0 (m + 1) none, [.dead], [.vec false 5 false (l ++ pu .u8 [IntKind.u8.wrap n])]⟩ else none
  | _, _, _ => none
noncomputable def s110' : Sig := { own := [true], run := run110' }
theorem ok110' : CallOk tau Try.prog 110 s110' := CallOk.mk' fun xs es k res hl hr => by
  change run110' xs es k = some res at hr
  unfold run110' at hr
  split at hr
  · rename_i n
    exact fn_at tabOk F110_ok mixed fo110 bo110 an110 [] 0 0 (ia110 0) hl rfl ((e110 0 n k).trans hr)
  · rename_i m n nl l
    obtain ⟨hc, hr⟩ := of_bif hr
    rw [Bool.and_eq_true, Nat.beq_eq, Nat.ble_eq] at hc
    obtain ⟨rfl, hc⟩ := hc
    have hg : g110b 0 nl l l.length n k = some res := by
      unfold g110b
      rw [bif_t (by simp [roomy]; omega), List.take_length, Bool.and_false]
      exact hr
    exact fn_at tabOk F110b_ok mixed fo110b bo110b an110b [] 1 0 (ia110b 0) hl rfl ((e110b 0 nl l l.length n k).trans hg)
  · cases hr
noncomputable def run108' : List PV → List Ent → (Res → Option Res) → Option Res
  | [.ro 5 true true [], .sc (.int .i64 n)], [], k => k ⟨.ow 5 16 [] 0 8 none, [], [.vec false 5 false (pu .u8 (intB n))]⟩
  | [.ow 5 0 [] 0 m none, .sc (.int .i64 n)], [.vec false 5 nl l], k => bif Nat.beq m l.length && Nat.ble l.length 1000000000 then k ⟨.ow 5 16 [] 0 (m + 8) none, [.dead], [.vec false 5 false (l ++ pu .u8 (intB n))]⟩ else none
  | _, _, _ => none
noncomputable def s108' : Sig := { own := [true], run := run108' }
theorem g108_nil (n : Int) (k : Res → Option Res) : g108 0 n k = k ⟨.ow 5 16 [] 0 8 none, [], [.vec false 5 false (pu .u8 (intB n))]⟩ := by
  rw [intB_eq]; kernel_rfl
theorem g108_own (nl : Bool) (l : List PV) (hl : l.length ≤ 1000000000) (n : Int) (k : Res → Option Res) : g108b 0 nl l l.length n k = k ⟨.ow 5 16 [] 0 (l.length + 8) none, [.dead], [.vec false 5 false (l ++ pu .u8 (intB n))]⟩ := by
  rw [intB_eq]
  unfold g108b
  repeat (refine (bif_t (by simp [roomy]; omega)).trans ?_)
  repeat rw [List.take_of_length_le (by simp <;> omega)]
  simp only [Bool.and_false, List.append_assoc]
  rfl
theorem ok108' : CallOk tau Try.prog 108 s108' := CallOk.mk' fun xs es k res hl hr => by
  change run108' xs es k = some res at hr
  unfold run108' at hr
  split at hr
  · rename_i n
    exact fn_at tabOk F108_ok mixed fo108 bo108 an108 [] 0 12 (ia108 0) hl rfl ((e108 0 n k).trans ((g108_nil n k).trans hr))
  · rename_i m n nl l
    obtain ⟨hc, hr⟩ := of_bif hr
    rw [Bool.and_eq_true, Nat.beq_eq, Nat.ble_eq] at hc
    obtain ⟨rfl, hc⟩ := hc
    exact fn_at tabOk F108b_ok mixed fo108b bo108b an108b [] 1 12 (ia108b 0) hl rfl ((e108b 0 nl l l.length n k).trans ((g108_own nl l hc n k).trans hr))
  · cases hr
noncomputable def run109' : List PV → List Ent → (Res → Option Res) → Option Res
  | [.ow 5 0 [] 0 m none, .sc (.string s)], [.vec false 5 nl l], k => bif Nat.beq m l.length && Nat.ble l.length 1000000000 && Nat.ble s.size 65535 then k ⟨.ow 5 16 [] 0 (m + (s.size + 2)) none, [.dead], [.vec false 5 false (l ++ pu .u8 (textB s))]⟩ else none
  | _, _, _ => none
noncomputable def s109' : Sig := { own := [true], run := run109' }
theorem ok109' : CallOk tau Try.prog 109 s109' := CallOk.mk' fun xs es k res hl hr => by
  change run109' xs es k = some res at hr
  unfold run109' at hr
  split at hr
  · rename_i m s nl l
    obtain ⟨hc, hr⟩ := of_bif hr
    rw [Bool.and_eq_true, Bool.and_eq_true, Nat.beq_eq, Nat.ble_eq, Nat.ble_eq] at hc
    obtain ⟨⟨rfl, hc⟩, hs⟩ := hc
    have hg : g109b 0 nl l l.length s k = some res := by
      unfold g109b
      have hob : (ofBytes s).length = s.size := by rw [ofBytes_pu]; simp
      rw [bif_f (by simp only [zi, decide_eq_false_iff_not]; omega), bif_t (by simp [roomy]; omega), bif_t (by simp [roomy, hob]; omega), List.take_length, List.take_of_length_le (by simp), hob, Bool.and_false, Bool.false_and]
      rw [textB_eq, textB0] at hr
      rw [ofBytes_pu, show l.length + 2 + s.size = l.length + (s.size + 2) from by omega]
      simpa [pu] using hr
    exact fn_at tabOk F109b_ok mixed fo109b bo109b an109b [] 1 0 (ia109b 0) hl rfl ((e109b 0 nl l l.length s k).trans hg)
  · cases hr
end Go.Proofs.Ytcklhipdldpkhaa.Rx

namespace Go.Proofs.Ytcklhipdldpkhaa.Rx
open Go
set_option linter.unusedVariables false
set_option linter.unusedSimpArgs false
set_option maxRecDepth 100000
set_option maxHeartbeats 1000000
theorem ib_eq (n : Int) (i : Nat) (h : 8 * i < 64) : ib n i = (n % 18446744073709551616) / (2 ^ (8 * i)) % 256 := by
  unfold ib shrI
  rw [wrap_u8_eq, wrap_u64_eq]
  have : min (8 * (i : Int)).toNat IntKind.u64.bits = 8 * i := by
    show min _ 64 = _
    omega
  rw [this, Int.fdiv_eq_ediv_of_nonneg _ (Int.pow_nonneg (by decide))]
theorem numL_intB (n : Int) : numL (intB n) = n % 18446744073709551616 := by
  rw [intB_eq]
  simp only [intB0, numL]
  have e0 : ib n 0 = n % 18446744073709551616 / 2 ^ (8 * 0) % 256 := ib_eq n 0 (by decide)
  have e1 : ib n 1 = n % 18446744073709551616 / 2 ^ (8 * 1) % 256 := ib_eq n 1 (by decide)
  have e2 : ib n 2 = n % 18446744073709551616 / 2 ^ (8 * 2) % 256 := ib_eq n 2 (by decide)
  have e3 : ib n 3 = n % 18446744073709551616 / 2 ^ (8 * 3) % 256 := ib_eq n 3 (by decide)
  have e4 : ib n 4 = n % 18446744073709551616 / 2 ^ (8 * 4) % 256 := ib_eq n 4 (by decide)
  have e5 : ib n 5 = n % 18446744073709551616 / 2 ^ (8 * 5) % 256 := ib_eq n 5 (by decide)
  have e6 : ib n 6 = n % 18446744073709551616 / 2 ^ (8 * 6) % 256 := ib_eq n 6 (by decide)
  have e7 : ib n 7 = n % 18446744073709551616 / 2 ^ (8 * 7) % 256 := ib_eq n 7 (by decide)
  simp only [Nat.reduceMul, Int.reducePow] at e0 e1 e2 e3 e4 e5 e6 e7
  omega
theorem wrap_i64_emod (n : Int) : IntKind.i64.wrap (n % 18446744073709551616) = IntKind.i64.wrap n := by
  have h : n % 18446744073709551616 % 18446744073709551616 = n % 18446744073709551616 := Int.emod_emod_of_dvd n (Int.dvd_refl _)
  show (if _ then _ else _) = (if _ then _ else _)
  have e : ∀ x : Int, x % 2 ^ IntKind.i64.bits = x % 18446744073709551616 := fun x => rfl
  simp only [e, h]
def i64B (n : Int) : Bool := decide (-9223372036854775808 ≤ n) && decide (n < 9223372036854775808)
theorem wrap_i64_mod {n : Int} (h : i64B n = true) : IntKind.i64.wrap (n % 18446744073709551616) = n := by
  simp only [i64B, Bool.and_eq_true, decide_eq_true_eq] at h
  have e : IntKind.i64.wrap (n % 18446744073709551616) = IntKind.i64.wrap n := wrap_i64_emod n
  rw [e]; exact wrap_i64 h.1 h.2
theorem out_pu (l : List Int) (r : List PV) {n : Nat} (h : l.length = n) : outS0 n ⟨pu .u8 l ++ r, 0⟩ = pu .u8 l := by
  unfold outS0 okS0
  have : Nat.ble n (pu .u8 l ++ r).length = true := (Nat.ble_eq ▸ (by simp; omega) : Nat.ble n (pu .u8 l ++ r).length = true)
  rw [this]
  show List.take n (pu .u8 l ++ r) = _
  rw [List.take_append_of_le_length (by simp; omega), List.take_of_length_le (by simp; omega)]
theorem step_pu (l : List Int) (r : List PV) {n : Nat} (h : l.length = n) : stepS0 n ⟨pu .u8 l ++ r, 0⟩ = ⟨r, 0⟩ := by
  unfold stepS0 okS0
  have : Nat.ble n (pu .u8 l ++ r).length = true := (Nat.ble_eq ▸ (by simp; omega) : Nat.ble n (pu .u8 l ++ r).length = true)
  rw [this]
  show RS.mk (List.drop n (pu .u8 l ++ r)) 0 = _
  rw [List.drop_append_of_le_length (by simp; omega), List.drop_of_length_le (by simp; omega), List.nil_append]
theorem num_pu (l : List Int) (r : List PV) {n : Nat} (h : l.length = n) : numS0 n ⟨pu .u8 l ++ r, 0⟩ = IntKind.i64.wrap (numL l) := by
  unfold numS0; rw [out_pu l r h, ints_pu]
theorem num_int {n : Int} (h : i64B n = true) (r : List PV) : numS 8 ⟨pu .u8 (intB n) ++ r, 0⟩ = n := by
  rw [numS_eq, num_pu _ _ (intB_length n), numL_intB, wrap_i64_mod h]
theorem step_int (n : Int) (r : List PV) : stepS 8 ⟨pu .u8 (intB n) ++ r, 0⟩ = ⟨r, 0⟩ := by
  rw [stepS_eq, step_pu _ _ (intB_length n)]
theorem num_byte (n : Int) (r : List PV) : numS 1 ⟨pu .u8 [IntKind.u8.wrap n] ++ r, 0⟩ = IntKind.u8.wrap n := by
  rw [numS_eq, num_pu [IntKind.u8.wrap n] r (n := 1) rfl]
  have := wrap_by n
  simp only [numL]
  rw [wrap_i64 (by omega) (by omega)]; omega
theorem step_byte (n : Int) (r : List PV) : stepS 1 ⟨pu .u8 [IntKind.u8.wrap n] ++ r, 0⟩ = ⟨r, 0⟩ := by
  rw [stepS_eq, step_pu [IntKind.u8.wrap n] r (n := 1) rfl]
theorem ba_list (l : List PV) (h : byB l = true) : ofBytes (⟨(toBytes l).toArray⟩ : ByteArray) = l := by
  simp only [ofBytes]
  show (toBytes l).map _ = l
  induction l with
  | nil => rfl
  | cons p ps ih =>
    have h1 : (p.isInt .u8 && (decide (0 ≤ p.int) && decide (p.int < 256))) = true ∧ byB ps = true := by
      have : byB (p :: ps) = ((p.isInt .u8 && (decide (0 ≤ p.int) && decide (p.int < 256))) && byB ps) := rfl
      rw [this, Bool.and_eq_true] at h; exact h
    simp only [toBytes, List.map_cons, ih h1.2]
    congr 1
    have h2 := h1.1
    simp only [Bool.and_eq_true, decide_eq_true_eq] at h2
    obtain ⟨h2, h3, h4⟩ := h2
    match p, h2 with
    | .sc (.int .u8 x), _ =>
      simp only [PV.int] at h3 h4 ⊢
      congr 2
      simp [UInt8.toNat_ofNat]
      omega
    all_goals skip
theorem txt_val {t : ByteArray} (h : t.size ≤ 65535) (r : List PV) : txtV ⟨pu .u8 (textB t) ++ r, 0⟩ = t ∧ txtS ⟨pu .u8 (textB t) ++ r, 0⟩ = ⟨r, 0⟩ := by
  have hn : ∀ r, numS0 2 ⟨pu .u8 [IntKind.u8.wrap (zi t.size), IntKind.u8.wrap (shrI .i64 (zi t.size) 8)] ++ r, 0⟩ = (t.size : Int) := by
    intro r
    rw [num_pu [IntKind.u8.wrap (zi t.size), IntKind.u8.wrap (shrI .i64 (zi t.size) 8)] r (n := 2) rfl]
    simp only [numL, shrI, wrap_u8_eq, zi]
    have : min (8 : Int).toNat IntKind.i64.bits = 8 := by decide
    rw [this, Int.fdiv_eq_ediv_of_nonneg _ (by decide), wrap_i64 (by omega) (by omega)]
    omega
  have hs : ∀ r, stepS0 2 ⟨pu .u8 [IntKind.u8.wrap (zi t.size), IntKind.u8.wrap (shrI .i64 (zi t.size) 8)] ++ r, 0⟩ = ⟨r, 0⟩ := fun r => step_pu _ _ rfl
  have he : pu .u8 (textB t) ++ r = pu .u8 [IntKind.u8.wrap (zi t.size), IntKind.u8.wrap (shrI .i64 (zi t.size) 8)] ++ (pu .u8 (bsI t) ++ r) := by
    rw [textB_eq, textB0, pu_append, List.append_assoc]
  rw [txtV_eq, txtS_eq, he]
  unfold txtV0 txtS0
  rw [hn, hs, Int.toNat_natCast, out_pu _ _ (bsI_length t), step_pu _ _ (bsI_length t)]
  refine ⟨?_, rfl⟩
  rw [← ofBytes_pu]
  apply ByteArray.ext
  apply Array.ext'
  show toBytes (ofBytes t) = t.data.toList
  simp only [ofBytes]
  generalize t.data.toList = l
  induction l with
  | nil => rfl
  | cons x l ih =>
    simp only [List.map_cons, toBytes, ih, PV.int]
    congr 1
    simp
theorem run_pu : ∀ (l : List Int) (r : List PV), (∀ x ∈ l, 0 ≤ x ∧ x < 256) → runB l.length ⟨pu .u8 l ++ r, 0⟩ = ⟨r, 0⟩ ∧ runH l.length ⟨pu .u8 l ++ r, 0⟩ = l
  | [], r, _ => ⟨rfl, rfl⟩
  | x :: l, r, h => by
      have h2 := run_pu l r fun y hy => h y (List.mem_cons_of_mem _ hy)
      have hx := h x List.mem_cons_self
      have e1 : stepS0 1 ⟨pu .u8 (x :: l) ++ r, 0⟩ = ⟨pu .u8 l ++ r, 0⟩ := by
        rw [show pu .u8 (x :: l) ++ r = pu .u8 [x] ++ (pu .u8 l ++ r) from rfl, step_pu [x] _ (n := 1) rfl]
      have e2 : numS0 1 ⟨pu .u8 (x :: l) ++ r, 0⟩ = x := by
        rw [show pu .u8 (x :: l) ++ r = pu .u8 [x] ++ (pu .u8 l ++ r) from rfl, num_pu [x] _ (n := 1) rfl]
        simp only [numL]
        rw [wrap_i64 (by omega) (by omega)]; omega
      simp only [List.length_cons, runB, runH, e1, e2, h2.1, h2.2, true_and]
      rw [wrap_u8_eq]; congr 1; omega
structure MsgOk (ns : List Int) (ts : List ByteArray) (h : List Int) : Prop where
  len : ns.length = 12
  num : ∀ n, n < 12 → i64B (ns.getD n 0) = true
  cnt : ts.length ≤ 4
  txt : ∀ t ∈ ts, t.size ≤ 65535
  sum : h.length = 32
  sumB : ∀ x ∈ h, 0 ≤ x ∧ x < 256
end Go.Proofs.Ytcklhipdldpkhaa.Rx

namespace Go.Proofs.Ytcklhipdldpkhaa.Rx
open Go
set_option linter.unusedVariables false
set_option linter.unusedSimpArgs false
set_option maxRecDepth 100000
theorem tyL2 {τ : Tab} {m : Nat} {a b : TypeId} {pvs : List PV} (h : TyL τ m [a, b] pvs) : ∃ p q, pvs = [p, q] ∧ Ty τ m a p ∧ Ty τ m b q := by
  match pvs, h with
  | [p, q], h => exact ⟨p, q, rfl, h.1, h.2.1⟩
theorem tyL3 {τ : Tab} {m : Nat} {a b c : TypeId} {pvs : List PV} (h : TyL τ m [a, b, c] pvs) : ∃ p q r, pvs = [p, q, r] ∧ Ty τ m a p ∧ Ty τ m b q ∧ Ty τ m c r := by
  match pvs, h with
  | [p, q, r], h => exact ⟨p, q, r, rfl, h.1, h.2.1, h.2.2.1⟩
end Go.Proofs.Ytcklhipdldpkhaa.Rx

-- FN law9.Keys | law16.Good | law16.Few
namespace Go.Proofs.Ytcklhipdldpkhaa.Rx
open Go
set_option linter.unusedVariables false
set_option linter.unusedSimpArgs false
set_option maxRecDepth 100000
set_option maxHeartbeats 1000000
noncomputable def kb : Nat → List PV → List PV := hid fun i b => pu .u8 [107, 48 + i] ++ b.take 60
theorem kb_eq (i : Nat) (b : List PV) : kb i b = pu .u8 [107, 48 + i] ++ b.take 60 := by rw [kb, hid_eq]
theorem kb_ok (i : Nat) {b : List PV} (h : allInt .u8 b = true) : kOk (kb i b) = true := by
  rw [kb_eq]; unfold kOk
  have h2 : allInt .u8 (b.take 60) = true := by
    rw [pu_ints h, pu_take]; simp
  rw [allInt_append, h2, allInt_pu]
  simp; omega
noncomputable def run21' : List PV → List Ent → (Res → Option Res) → Option Res
  | [.ro 5 z f b], [], k => k ⟨.st 31 [.ro 5 false false (kb 0 b), .ro 5 false false (kb 1 b), .ro 5 false false (kb 2 b)], [], []⟩
  | _, _, _ => none
noncomputable def s21' : Sig := { own := [], run := run21' }
theorem min60 (n m : Nat) : (minI (zi n) m).toNat = min n m := by unfold minI; simp only [zi]; split <;> omega
theorem ok21' : CallOk tau Try.prog 21 s21' := ok21.of fun xs es k res hr => by
  change run21' xs es k = some res at hr
  unfold run21' at hr
  split at hr
  · rename_i z f b
    show g21 0 z f b k = some res
    have hm : (minI (zi b.length) 60).toNat = min b.length 60 := min60 b.length 60
    have ht : List.take (min b.length 60) b = b.take 60 := by rw [Nat.min_comm, List.take_eq_take_iff]; omega
    have hl : (b.take 60).length ≤ 60 := by simp; omega
    have e : ∀ x y : Int, List.take (2 + (b.take 60).length) (.sc (.int .u8 x) :: .sc (.int .u8 y) :: id (b.take 60)) = .sc (.int .u8 x) :: .sc (.int .u8 y) :: b.take 60 := fun x y => List.take_of_length_le (by simp; omega)
    have hk : ∀ i, kb i b = .sc (.int .u8 107) :: .sc (.int .u8 (48 + i)) :: b.take 60 := fun i => by rw [kb_eq]; simp
    unfold g21
    simp only [hm, ht, e]
    have hr4 : roomy (2 + (b.take 60).length) 1 = true := by simp only [roomy, Nat.mul_one, decide_eq_true_eq]; omega
    rw [bif_t (by simp; unfold minI; simp only [zi]; split <;> omega), hr4]
    simp only [hk] at hr
    exact hr
  · cases hr
def goodF0 : Nat → C13 → Int
  | 0, c => 1 + c.kd % 5
  | 1, c => c.fr % 3
  | 2, c => (c.fr % 3 + 1 + c.to % 2) % 3
  | 3, c => c.wh % 3
  | 4, c => c.wn % 100
  | 5, c => c.cd % 3
  | 6, c => c.cu % 8
  | 7, c => c.ve % 1073741824
  | 8, c => c.co % 1073741824
  | 9, c => c.ad % 3
  | 10, c => c.au % 8
  | 11, c => c.su % 1073741824
  | _, c => c.er % 256
noncomputable def goodF : Nat → C13 → Int := hid goodF0
noncomputable abbrev gcOf (c : C13) : C13 := ⟨goodF 0 c, goodF 1 c, goodF 2 c, goodF 3 c, goodF 4 c, goodF 5 c, goodF 6 c, goodF 7 c, goodF 8 c, goodF 9 c, goodF 10 c, goodF 11 c, goodF 12 c⟩
end Go.Proofs.Ytcklhipdldpkhaa.Rx

namespace Go.Proofs.Ytcklhipdldpkhaa.Rx
open Go
set_option linter.unusedVariables false
set_option maxRecDepth 100000
set_option maxHeartbeats 0
noncomputable def F72 : Fns := F0
theorem F72_ok : FnsOk tau Try.prog F72 := F0_ok
def an72 : An := (.seq .leaf (.seq .leaf .leaf))
noncomputable def g72 (f : Nat) (k : Res → Option Res) : Option Res := k (Res.mk (.ar 118 [.sc (.int .u32 1116352408), .sc (.int .u32 1899447441), .sc (.int .u32 3049323471), .sc (.int .u32 3921009573), .sc (.int .u32 961987163), .sc (.int .u32 1508970993), .sc (.int .u32 2453635748), .sc (.int .u32 2870763221), .sc (.int .u32 3624381080), .sc (.int .u32 310598401), .sc (.int .u32 607225278), .sc (.int .u32 1426881987), .sc (.int .u32 1925078388), .sc (.int .u32 2162078206), .sc (.int .u32 2614888103), .sc (.int .u32 3248222580), .sc (.int .u32 3835390401), .sc (.int .u32 4022224774), .sc (.int .u32 264347078), .sc (.int .u32 604807628), .sc (.int .u32 770255983), .sc (.int .u32 1249150122), .sc (.int .u32 1555081692), .sc (.int .u32 1996064986), .sc (.int .u32 2554220882), .sc (.int .u32 2821834349), .sc (.int .u32 2952996808), .sc (.int .u32 3210313671), .sc (.int .u32 3336571891), .sc (.int .u32 3584528711), .sc (.int .u32 113926993), .sc (.int .u32 338241895), .sc (.int .u32 666307205), .sc (.int .u32 773529912), .sc (.int .u32 1294757372), .sc (.int .u32 1396182291), .sc (.int .u32 1695183700), .sc (.int .u32 1986661051), .sc (.int .u32 2177026350), .sc (.int .u32 2456956037), .sc (.int .u32 2730485921), .sc (.int .u32 2820302411), .sc (.int .u32 3259730800), .sc (.int .u32 3345764771), .sc (.int .u32 3516065817), .sc (.int .u32 3600352804), .sc (.int .u32 4094571909), .sc (.int .u32 275423344), .sc (.int .u32 430227734), .sc (.int .u32 506948616), .sc (.int .u32 659060556), .sc (.int .u32 883997877), .sc (.int .u32 958139571), .sc (.int .u32 1322822218), .sc (.int .u32 1537002063), .sc (.int .u32 1747873779), .sc (.int .u32 1955562222), .sc (.int .u32 2024104815), .sc (.int .u32 2227730452), .sc (.int .u32 2361852424), .sc (.int .u32 2428436474), .sc (.int .u32 2756734187), .sc (.int .u32 3204031479), .sc (.int .u32 3329325298)]) [] [])
theorem e72 (f : Nat) (k : Res → Option Res) : evFn tau F72 Try.f72 (Try.f72.body.get!) an72 [.ro] 0 [] [] k = g72 f k := by kernel_rfl
theorem it72 (f : Nat) : items (Try.f72.body.get!) an72 = [] := by kernel_rfl
theorem ia72 (f : Nat) : ∀ q ∈ items (Try.f72.body.get!) an72, q.Ok tau Try.prog 0 := by
  rw [it72 f]; intro q hq; cases hq
theorem fo72 : Try.prog.funcs[72]? = some Try.f72 := by kernel_rfl
theorem bo72 : Try.f72.body = some (Try.f72.body.get!) := by kernel_rfl
theorem en72 : Enters Try.prog 72 := enters_of fo72 (by kernel_rfl) bo72
noncomputable def run72 : List PV → List Ent → (Res → Option Res) → Option Res
  | [], [], k => g72 0  k
  | _, _, _ => none
noncomputable def s72 : Sig := { own := [], run := run72 }
theorem ok72 : CallOk tau Try.prog 72 s72 := fn_ok tabOk F72_ok mixed fo72 bo72 an72 [.ro] 0 [] run72 (ia72 0) fun xs es k res hr => by
  unfold run72 at hr
  split at hr
  · exact ⟨rfl, 0, (e72 0  _).trans hr⟩
  · cases hr
end Go.Proofs.Ytcklhipdldpkhaa.Rx

namespace Go.Proofs.Ytcklhipdldpkhaa.Rx
open Go
set_option linter.unusedVariables false
set_option maxRecDepth 100000
set_option maxHeartbeats 0
def N28 : Nat := 278
noncomputable def F28 : Fns := addF 72 s72 (addF 73 s73' F0)
theorem F28_ok : FnsOk tau Try.prog F28 := (F0_ok.add ok73' en73).add ok72 en72
noncomputable def c28_0 : Code := subC (Try.f28.body.get!) [1, 1, 1, 1, 1, 0, 0, 0]
def nm28_0 : Nm := [(0, .any), (2, .any), (3, .any), (4, .any), (5, .any)]
def nx28_0 : Nm := [(0, .any), (2, .any), (3, .any), (4, .any), (5, .any)]
def x28_0 : An := (.seq (.seq .leaf (.cond .leaf .leaf)) (.block none .leaf))
noncomputable def c28_1 : Code := subC (Try.f28.body.get!) [1, 1, 1, 1, 1, 1, 1, 0, 1, 0, 0]
def nm28_1 : Nm := [(2, .any), (3, .any), (4, .any), (5, .any), (6, .any), (7, .any)]
def nx28_1 : Nm := [(2, .any), (3, .any), (4, .any), (5, .any)]
def x28_1 : An := (.seq (.seq .leaf (.cond .leaf .leaf)) (.seq (.block none .leaf) .leaf))
noncomputable def c28_3 : Code := subC (Try.f28.body.get!) [1, 1, 1, 1, 1, 1, 1, 1, 1, 0, 1, 0, 0, 1, 0, 0, 0, 1, 0, 0]
def nm28_3 : Nm := [(2, .any), (3, .any), (4, .any), (5, .any), (8, .any), (9, .any), (10, .any)]
def nx28_3 : Nm := [(2, .any), (3, .any), (4, .any), (5, .any), (8, .any), (9, .any)]
def x28_3 : An := (.seq (.seq .leaf (.cond .leaf .leaf)) (.seq (.block none (.seq .leaf .leaf)) .leaf))
noncomputable def c28_4 : Code := subC (Try.f28.body.get!) [1, 1, 1, 1, 1, 1, 1, 1, 1, 0, 1, 0, 0, 1, 0, 0, 1, 0, 1, 0, 0]
def nm28_4 : Nm := [(2, .any), (3, .any), (4, .any), (5, .any), (8, .any), (9, .any), (12, .any)]
def nx28_4 : Nm := [(2, .any), (3, .any), (4, .any), (5, .any), (8, .any), (9, .any)]
def x28_4 : An := (.seq (.seq .leaf (.cond .leaf .leaf)) (.seq (.block none (.seq .leaf .leaf)) .leaf))
noncomputable def c28_5 : Code := subC (Try.f28.body.get!) [1, 1, 1, 1, 1, 1, 1, 1, 1, 0, 1, 0, 0, 1, 0, 0, 1, 1, 1, 0, 1, 0, 0]
def nm28_5 : Nm := [(2, .any), (3, .any), (4, .any), (5, .any), (8, .any), (9, .any), (15, .any), (16, .any)]
def nx28_5 : Nm := [(2, .any), (3, .any), (4, .any), (5, .any), (8, .any), (9, .any), (15, .any)]
def x28_5 : An := (.seq (.seq .leaf (.cond .leaf .leaf)) (.seq (.block none (.seq .leaf (.seq .leaf (.seq .leaf .leaf)))) .leaf))
noncomputable def c28_6 : Code := subC (Try.f28.body.get!) [1, 1, 1, 1, 1, 1, 1, 1, 1, 0, 1, 0, 0, 1, 0, 0, 1, 1, 1, 1, 1, 0, 0]
def nm28_6 : Nm := [(2, .any), (3, .any), (4, .any), (5, .any), (8, .any), (9, .any), (15, .any), (20, .any)]
def nx28_6 : Nm := [(2, .any), (3, .any), (4, .any), (5, .any), (8, .any), (9, .any)]
def x28_6 : An := (.seq (.seq .leaf (.cond .leaf .leaf)) (.seq (.block none .leaf) .leaf))
noncomputable def c28_2 : Code := subC (Try.f28.body.get!) [1, 1, 1, 1, 1, 1, 1, 1, 1, 0, 1, 0, 0]
def nm28_2 : Nm := [(2, .any), (3, .any), (4, .any), (5, .any), (8, .any), (9, .any)]
def nx28_2 : Nm := [(2, .any), (4, .any)]
def x28_2 (r3 : RunL) (r4 : RunL) (r5 : RunL) (r6 : RunL) : An := (.seq (.seq .leaf (.cond .leaf .leaf)) (.seq (.block none (.seq (.seq .leaf (.block none (.sum nm28_3 N28 r3))) (.seq (.seq .leaf (.block none (.sum nm28_4 N28 r4))) (.seq .leaf (.seq (.seq .leaf (.block none (.sum nm28_5 N28 r5))) (.seq .leaf (.block none (.sum nm28_6 N28 r6)))))))) .leaf))
noncomputable def c28_7 : Code := subC (Try.f28.body.get!) [1, 1, 1, 1, 1, 1, 1, 1, 1, 1, 1, 0, 1, 0, 0]
def nm28_7 : Nm := [(2, .any), (4, .any), (21, .any), (22, .any)]
def nx28_7 : Nm := [(2, .any), (21, .any)]
def x28_7 : An := (.seq (.seq .leaf (.cond .leaf .leaf)) (.seq (.block none .leaf) .leaf))
def an28 (r0 : RunL) (r1 : RunL) (r2 : RunL) (r7 : RunL) : An := (.seq .leaf (.seq .leaf (.seq .leaf (.seq .leaf (.seq .leaf (.seq (.block none (.sum nm28_0 N28 r0)) (.seq .leaf (.seq (.seq .leaf (.block none (.sum nm28_1 N28 r1))) (.seq .leaf (.seq (.seq .leaf (.block none (.sum nm28_2 N28 r2))) (.seq .leaf (.seq (.seq .leaf (.block none (.sum nm28_7 N28 r7))) (.seq .leaf .leaf)))))))))))))
def lpS28_0 (f : Nat) (rc : Bool → Bool → List PV → Nat → List PV → List PV → List PV → List PV → Option Res) (k0 : Bool → Bool → List PV → Nat → List PV → List PV → List PV → List PV → Option Res) (v0 : Bool) (v1 : Bool) (v2 : List PV) (v3 : Nat) (v4 : List PV) (v5 : List PV) (v6 : List PV) (v7 : List PV) : Option Res := bif (zi v3).tmod 64 != 56 then bif roomy (v3 + 1) 1 && true then rc v0 v1 v2 (v3 + 1) v4 v5 v6 (List.take v3 v7 ++ [.sc (.int .u8 0)]) else none else k0 v0 v1 v2 v3 v4 v5 v6 v7
def lp28_0 (f : Nat) (k0 : Bool → Bool → List PV → Nat → List PV → List PV → List PV → List PV → Option Res) : Nat → Bool → Bool → List PV → Nat → List PV → List PV → List PV → List PV → Option Res
  | 0, _, _, _, _, _, _, _, _ => none
  | n + 1, v0, v1, v2, v3, v4, v5, v6, v7 => lpS28_0 f (lp28_0 f k0 n) k0 v0 v1 v2 v3 v4 v5 v6 v7
theorem lpR28_0 (f : Nat) (k : Kont) (n : Nat) (v0 : Bool) (v1 : Bool) (v2 : List PV) (v3 : Nat) (v4 : List PV) (v5 : List PV) (v6 : List PV) (v7 : List PV) : evLoop tau 0 nm28_0 (fun s k => ev tau F28 0 0 c28_0 (x28_0 ) s k) (n + 1) (fillS nm28_0 N28 [.ro 5 v0 v1 v2, .ptr 4464 [], .ptr 4465 [], .ptr 4466 [], .ow 5 4467 [] 0 v3 none] [(4464, .box false 37 (PV.ar 37 v4)), (4465, .box false 118 (PV.ar 118 v5)), (4466, .box false 112 (PV.ar 112 v6)), (4467, .vec false 5 false v7)]) (kNorm tau 0 nx28_0 k) = lpS28_0 f (fun v0 v1 v2 v3 v4 v5 v6 v7 => evLoop tau 0 nm28_0 (fun s k => ev tau F28 0 0 c28_0 (x28_0 ) s k) n (fillS nm28_0 N28 [.ro 5 v0 v1 v2, .ptr 4464 [], .ptr 4465 [], .ptr 4466 [], .ow 5 4467 [] 0 v3 none] [(4464, .box false 37 (PV.ar 37 v4)), (4465, .box false 118 (PV.ar 118 v5)), (4466, .box false 112 (PV.ar 112 v6)), (4467, .vec false 5 false v7)]) (kNorm tau 0 nx28_0 k)) (fun x0 x1 x2 x3 x4 x5 x6 x7 => k (Ex.exit 0) (fillS nx28_0 N28 [.ro 5 x0 x1 x2, .ptr 4464 [], .ptr 4465 [], .ptr 4466 [], .ow 5 4467 [] 0 x3 none] [(4464, .box false 37 (PV.ar 37 x4)), (4465, .box false 118 (PV.ar 118 x5)), (4466, .box false 112 (PV.ar 112 x6)), (4467, .vec false 5 false x7)])) v0 v1 v2 v3 v4 v5 v6 v7 := by kernel_rfl
theorem lpE28_0 (f : Nat) (k : Kont) : ∀ (n : Nat) (v0 : Bool) (v1 : Bool) (v2 : List PV) (v3 : Nat) (v4 : List PV) (v5 : List PV) (v6 : List PV) (v7 : List PV), evLoop tau 0 nm28_0 (fun s k => ev tau F28 0 0 c28_0 (x28_0 ) s k) n (fillS nm28_0 N28 [.ro 5 v0 v1 v2, .ptr 4464 [], .ptr 4465 [], .ptr 4466 [], .ow 5 4467 [] 0 v3 none] [(4464, .box false 37 (PV.ar 37 v4)), (4465, .box false 118 (PV.ar 118 v5)), (4466, .box false 112 (PV.ar 112 v6)), (4467, .vec false 5 false v7)]) (kNorm tau 0 nx28_0 k) = lp28_0 f (fun x0 x1 x2 x3 x4 x5 x6 x7 => k (Ex.exit 0) (fillS nx28_0 N28 [.ro 5 x0 x1 x2, .ptr 4464 [], .ptr 4465 [], .ptr 4466 [], .ow 5 4467 [] 0 x3 none] [(4464, .box false 37 (PV.ar 37 x4)), (4465, .box false 118 (PV.ar 118 x5)), (4466, .box false 112 (PV.ar 112 x6)), (4467, .vec false 5 false x7)])) n v0 v1 v2 v3 v4 v5 v6 v7 | 0, _, _, _, _, _, _, _, _ => rfl | n + 1, v0, v1, v2, v3, v4, v5, v6, v7 => (lpR28_0 f k n v0 v1 v2 v3 v4 v5 v6 v7).trans (congrArg (fun r => lpS28_0 f r (fun x0 x1 x2 x3 x4 x5 x6 x7 => k (Ex.exit 0) (fillS nx28_0 N28 [.ro 5 x0 x1 x2, .ptr 4464 [], .ptr 4465 [], .ptr 4466 [], .ow 5 4467 [] 0 x3 none] [(4464, .box false 37 (PV.ar 37 x4)), (4465, .box false 118 (PV.ar 118 x5)), (4466, .box false 112 (PV.ar 112 x6)), (4467, .vec false 5 false x7)])) v0 v1 v2 v3 v4 v5 v6 v7) (by funext v0 v1 v2 v3 v4 v5 v6 v7; exact lpE28_0 f k n v0 v1 v2 v3 v4 v5 v6 v7))
def r28_0 (f : Nat) : List PV → List (Nat × Ent) → Kont → Option Res
  | [.ro 5 v0 v1 v2, .ptr 4464 [], .ptr 4465 [], .ptr 4466 [],
  PV.ow 5 4467 [] 0 v3
    none], [(4464, .box false 37 (PV.ar 37 v4)), (4465, .box false 118 (PV.ar 118 v5)), (4466, .box false 112 (PV.ar 112 v6)),
  (4467,
    Ent.vec false 5 false
      v7)], k => lp28_0 f (fun x0 x1 x2 x3 x4 x5 x6 x7 => k (Ex.exit
  0) (fillS nx28_0 N28 [.ro 5 x0 x1 x2, .ptr 4464 [], .ptr 4465 [], .ptr 4466 [],
  PV.ow 5 4467 [] 0 x3
    none] [(4464, .box false 37 (PV.ar 37 x4)), (4465, .box false 118 (PV.ar 118 x5)), (4466, .box false 112 (PV.ar 112 x6)), (4467, .vec false 5 false x7)])) f v0 v1 v2 v3 v4 v5 v6 v7
  | _, _, _ => none
theorem it28_0 (f : Nat) : items c28_0 x28_0 = [] := by kernel_rfl
theorem i17_0 (f : Nat) : (Item.l c28_0 nm28_0 N28 (r28_0 f)).Ok tau Try.prog 0 := loop_item tabOk F28_ok mixed (x := x28_0) (nm2 := nx28_0) (anOk_items _ _ (by rw [it28_0 f]; intro q hq; cases hq)) fun vs hp k res hr => by
  unfold r28_0 at hr
  split at hr
  · exact ⟨f, 0, (lpE28_0 f _ f _ _ _ _ _ _ _ _ ).trans hr⟩
  · cases hr
def lpS28_1 (f : Nat) (rc : Nat → Int → Int → List PV → List PV → List PV → List PV → Option Res) (k0 : Nat → List PV → List PV → List PV → List PV → Option Res) (v0 : Nat) (v1 : Int) (v2 : Int) (v3 : List PV) (v4 : List PV) (v5 : List PV) (v6 : List PV) : Option Res := bif decide (v2 ≥ 0) then bif decide (0 ≤ IntKind.u64.wrap (8 * IntKind.u64.wrap v2)) && true then bif roomy (v0 + 1) 1 && true then rc (v0 + 1) v1 (IntKind.i64.wrap (v2 - 1)) v3 v4 v5 (List.take v0 v6 ++ [.sc (.int .u8 (IntKind.u8.wrap (shrI IntKind.u64 v1 (IntKind.u64.wrap (8 * IntKind.u64.wrap v2)))))]) else none else none else k0 v0 v3 v4 v5 v6
def lp28_1 (f : Nat) (k0 : Nat → List PV → List PV → List PV → List PV → Option Res) : Nat → Nat → Int → Int → List PV → List PV → List PV → List PV → Option Res
  | 0, _, _, _, _, _, _, _ => none
  | n + 1, v0, v1, v2, v3, v4, v5, v6 => lpS28_1 f (lp28_1 f k0 n) k0 v0 v1 v2 v3 v4 v5 v6
theorem lpR28_1 (f : Nat) (k : Kont) (n : Nat) (v0 : Nat) (v1 : Int) (v2 : Int) (v3 : List PV) (v4 : List PV) (v5 : List PV) (v6 : List PV) : evLoop tau 0 nm28_1 (fun s k => ev tau F28 0 0 c28_1 (x28_1 ) s k) (n + 1) (fillS nm28_1 N28 [.ptr 4464 [], .ptr 4465 [], .ptr 4466 [], .ow 5 4467 [] 0 v0 none, .sc (.int .u64 v1), .sc (.int .i64 v2)] [(4464, .box false 37 (PV.ar 37 v3)), (4465, .box false 118 (PV.ar 118 v4)), (4466, .box false 112 (PV.ar 112 v5)), (4467, .vec false 5 false v6)]) (kNorm tau 0 nx28_1 k) = lpS28_1 f (fun v0 v1 v2 v3 v4 v5 v6 => evLoop tau 0 nm28_1 (fun s k => ev tau F28 0 0 c28_1 (x28_1 ) s k) n (fillS nm28_1 N28 [.ptr 4464 [], .ptr 4465 [], .ptr 4466 [], .ow 5 4467 [] 0 v0 none, .sc (.int .u64 v1), .sc (.int .i64 v2)] [(4464, .box false 37 (PV.ar 37 v3)), (4465, .box false 118 (PV.ar 118 v4)), (4466, .box false 112 (PV.ar 112 v5)), (4467, .vec false 5 false v6)]) (kNorm tau 0 nx28_1 k)) (fun x0 x1 x2 x3 x4 => k (Ex.exit 2) (fillS nx28_1 N28 [.ptr 4464 [], .ptr 4465 [], .ptr 4466 [], .ow 5 4467 [] 0 x0 none] [(4464, .box false 37 (PV.ar 37 x1)), (4465, .box false 118 (PV.ar 118 x2)), (4466, .box false 112 (PV.ar 112 x3)), (4467, .vec false 5 false x4)])) v0 v1 v2 v3 v4 v5 v6 := by kernel_rfl
theorem lpE28_1 (f : Nat) (k : Kont) : ∀ (n : Nat) (v0 : Nat) (v1 : Int) (v2 : Int) (v3 : List PV) (v4 : List PV) (v5 : List PV) (v6 : List PV), evLoop tau 0 nm28_1 (fun s k => ev tau F28 0 0 c28_1 (x28_1 ) s k) n (fillS nm28_1 N28 [.ptr 4464 [], .ptr 4465 [], .ptr 4466 [], .ow 5 4467 [] 0 v0 none, .sc (.int .u64 v1), .sc (.int .i64 v2)] [(4464, .box false 37 (PV.ar 37 v3)), (4465, .box false 118 (PV.ar 118 v4)), (4466, .box false 112 (PV.ar 112 v5)), (4467, .vec false 5 false v6)]) (kNorm tau 0 nx28_1 k) = lp28_1 f (fun x0 x1 x2 x3 x4 => k (Ex.exit 2) (fillS nx28_1 N28 [.ptr 4464 [], .ptr 4465 [], .ptr 4466 [], .ow 5 4467 [] 0 x0 none] [(4464, .box false 37 (PV.ar 37 x1)), (4465, .box false 118 (PV.ar 118 x2)), (4466, .box false 112 (PV.ar 112 x3)), (4467, .vec false 5 false x4)])) n v0 v1 v2 v3 v4 v5 v6 | 0, _, _, _, _, _, _, _ => rfl | n + 1, v0, v1, v2, v3, v4, v5, v6 => (lpR28_1 f k n v0 v1 v2 v3 v4 v5 v6).trans (congrArg (fun r => lpS28_1 f r (fun x0 x1 x2 x3 x4 => k (Ex.exit 2) (fillS nx28_1 N28 [.ptr 4464 [], .ptr 4465 [], .ptr 4466 [], .ow 5 4467 [] 0 x0 none] [(4464, .box false 37 (PV.ar 37 x1)), (4465, .box false 118 (PV.ar 118 x2)), (4466, .box false 112 (PV.ar 112 x3)), (4467, .vec false 5 false x4)])) v0 v1 v2 v3 v4 v5 v6) (by funext v0 v1 v2 v3 v4 v5 v6; exact lpE28_1 f k n v0 v1 v2 v3 v4 v5 v6))
def r28_1 (f : Nat) : List PV → List (Nat × Ent) → Kont → Option Res
  | [.ptr 4464 [], .ptr 4465 [], .ptr 4466 [], .ow 5 4467 [] 0 v0 none, .sc (.int .u64 v1),
  PV.sc
    (Value.int IntKind.i64
      v2)], [(4464, .box false 37 (PV.ar 37 v3)), (4465, .box false 118 (PV.ar 118 v4)), (4466, .box false 112 (PV.ar 112 v5)),
  (4467,
    Ent.vec false 5 false
      v6)], k => lp28_1 f (fun x0 x1 x2 x3 x4 => k (Ex.exit
  2) (fillS nx28_1 N28 [.ptr 4464 [], .ptr 4465 [], .ptr 4466 [],
  PV.ow 5 4467 [] 0 x0
    none] [(4464, .box false 37 (PV.ar 37 x1)), (4465, .box false 118 (PV.ar 118 x2)), (4466, .box false 112 (PV.ar 112 x3)), (4467, .vec false 5 false x4)])) f v0 v1 v2 v3 v4 v5 v6
  | _, _, _ => none
theorem it28_1 (f : Nat) : items c28_1 x28_1 = [] := by kernel_rfl
theorem i17_1 (f : Nat) : (Item.l c28_1 nm28_1 N28 (r28_1 f)).Ok tau Try.prog 0 := loop_item tabOk F28_ok mixed (x := x28_1) (nm2 := nx28_1) (anOk_items _ _ (by rw [it28_1 f]; intro q hq; cases hq)) fun vs hp k res hr => by
  unfold r28_1 at hr
  split at hr
  · exact ⟨f, 0, (lpE28_1 f _ f _ _ _ _ _ _ _ ).trans hr⟩
  · cases hr
def lpS28_3 (f : Nat) (rc : Nat → Int → Int → List PV → List PV → List PV → List PV → List PV → Option Res) (k0 : Nat → Int → List PV → List PV → List PV → List PV → List PV → Option Res) (v0 : Nat) (v1 : Int) (v2 : Int) (v3 : List PV) (v4 : List PV) (v5 : List PV) (v6 : List PV) (v7 : List PV) : Option Res := bif decide (v2 < 16) then bif decide (0 ≤ IntKind.i64.wrap (v1 + IntKind.i64.wrap (4 * v2))) && decide (IntKind.i64.wrap (v1 + IntKind.i64.wrap (4 * v2)) < zi v0) && true then bif PV.isInt IntKind.u8 (getP (v6.getD (0 + (IntKind.i64.wrap (v1 + IntKind.i64.wrap (4 * v2))).toNat) PV.top) []) && true then bif decide (0 ≤ IntKind.i64.wrap (IntKind.i64.wrap (v1 + IntKind.i64.wrap (4 * v2)) + 1)) && decide (IntKind.i64.wrap (IntKind.i64.wrap (v1 + IntKind.i64.wrap (4 * v2)) + 1) < zi v0) && true then bif PV.isInt IntKind.u8 (getP (v6.getD (0 + (IntKind.i64.wrap (IntKind.i64.wrap (v1 + IntKind.i64.wrap (4 * v2)) + 1)).toNat) PV.top) []) && true then bif decide (0 ≤ IntKind.i64.wrap (IntKind.i64.wrap (v1 + IntKind.i64.wrap (4 * v2)) + 2)) && decide (IntKind.i64.wrap (IntKind.i64.wrap (v1 + IntKind.i64.wrap (4 * v2)) + 2) < zi v0) && true then bif PV.isInt IntKind.u8 (getP (v6.getD (0 + (IntKind.i64.wrap (IntKind.i64.wrap (v1 + IntKind.i64.wrap (4 * v2)) + 2)).toNat) PV.top) []) && true then bif decide (0 ≤ IntKind.i64.wrap (IntKind.i64.wrap (v1 + IntKind.i64.wrap (4 * v2)) + 3)) && decide (IntKind.i64.wrap (IntKind.i64.wrap (v1 + IntKind.i64.wrap (4 * v2)) + 3) < zi v0) && true then bif PV.isInt IntKind.u8 (getP (v6.getD (0 + (IntKind.i64.wrap (IntKind.i64.wrap (v1 + IntKind.i64.wrap (4 * v2)) + 3)).toNat) PV.top) []) && true then bif decide (0 ≤ v2) && decide (v2 < zi 64) && true then rc v0 v1 (IntKind.i64.wrap (v2 + 1)) v3 v4 v5 v6 (v7.set v2.toNat (.sc (.int .u32 (bitI BinOp.or IntKind.u32 (bitI BinOp.or IntKind.u32 (bitI BinOp.or IntKind.u32 (shlI IntKind.u32 (IntKind.u32.wrap (getP (v6.getD (0 + (IntKind.i64.wrap (v1 + IntKind.i64.wrap (4 * v2))).toNat) PV.top) []).int) 24) (shlI IntKind.u32 (IntKind.u32.wrap (getP (v6.getD (0 + (IntKind.i64.wrap (IntKind.i64.wrap (v1 + IntKind.i64.wrap (4 * v2)) + 1)).toNat) PV.top) []).int) 16)) (shlI IntKind.u32 (IntKind.u32.wrap (getP (v6.getD (0 + (IntKind.i64.wrap (IntKind.i64.wrap (v1 + IntKind.i64.wrap (4 * v2)) + 2)).toNat) PV.top) []).int) 8)) (IntKind.u32.wrap (getP (v6.getD (0 + (IntKind.i64.wrap (IntKind.i64.wrap (v1 + IntKind.i64.wrap (4 * v2)) + 3)).toNat) PV.top) []).int))))) else none else none else none else none else none else none else none else none else none else k0 v0 v1 v3 v4 v5 v6 v7
def lp28_3 (f : Nat) (k0 : Nat → Int → List PV → List PV → List PV → List PV → List PV → Option Res) : Nat → Nat → Int → Int → List PV → List PV → List PV → List PV → List PV → Option Res
  | 0, _, _, _, _, _, _, _, _ => none
  | n + 1, v0, v1, v2, v3, v4, v5, v6, v7 => lpS28_3 f (lp28_3 f k0 n) k0 v0 v1 v2 v3 v4 v5 v6 v7
theorem lpR28_3 (f : Nat) (k : Kont) (n : Nat) (v0 : Nat) (v1 : Int) (v2 : Int) (v3 : List PV) (v4 : List PV) (v5 : List PV) (v6 : List PV) (v7 : List PV) : evLoop tau 0 nm28_3 (fun s k => ev tau F28 0 0 c28_3 (x28_3 ) s k) (n + 1) (fillS nm28_3 N28 [.ptr 4464 [], .ptr 4465 [], .ptr 4466 [], .ow 5 4467 [] 0 v0 none, .ptr 4468 [], .sc (.int .i64 v1), .sc (.int .i64 v2)] [(4464, .box false 37 (PV.ar 37 v3)), (4465, .box false 118 (PV.ar 118 v4)), (4466, .box false 112 (PV.ar 112 v5)), (4467, .vec false 5 false v6), (4468, .box false 118 (PV.ar 118 v7))]) (kNorm tau 0 nx28_3 k) = lpS28_3 f (fun v0 v1 v2 v3 v4 v5 v6 v7 => evLoop tau 0 nm28_3 (fun s k => ev tau F28 0 0 c28_3 (x28_3 ) s k) n (fillS nm28_3 N28 [.ptr 4464 [], .ptr 4465 [], .ptr 4466 [], .ow 5 4467 [] 0 v0 none, .ptr 4468 [], .sc (.int .i64 v1), .sc (.int .i64 v2)] [(4464, .box false 37 (PV.ar 37 v3)), (4465, .box false 118 (PV.ar 118 v4)), (4466, .box false 112 (PV.ar 112 v5)), (4467, .vec false 5 false v6), (4468, .box false 118 (PV.ar 118 v7))]) (kNorm tau 0 nx28_3 k)) (fun x0 x1 x2 x3 x4 x5 x6 => k (Ex.exit 6) (fillS nx28_3 N28 [.ptr 4464 [], .ptr 4465 [], .ptr 4466 [], .ow 5 4467 [] 0 x0 none, .ptr 4468 [], .sc (.int .i64 x1)] [(4464, .box false 37 (PV.ar 37 x2)), (4465, .box false 118 (PV.ar 118 x3)), (4466, .box false 112 (PV.ar 112 x4)), (4467, .vec false 5 false x5), (4468, .box false 118 (PV.ar 118 x6))])) v0 v1 v2 v3 v4 v5 v6 v7 := by kernel_rfl
theorem lpE28_3 (f : Nat) (k : Kont) : ∀ (n : Nat) (v0 : Nat) (v1 : Int) (v2 : Int) (v3 : List PV) (v4 : List PV) (v5 : List PV) (v6 : List PV) (v7 : List PV), evLoop tau 0 nm28_3 (fun s k => ev tau F28 0 0 c28_3 (x28_3 ) s k) n (fillS nm28_3 N28 [.ptr 4464 [], .ptr 4465 [], .ptr 4466 [], .ow 5 4467 [] 0 v0 none, .ptr 4468 [], .sc (.int .i64 v1), .sc (.int .i64 v2)] [(4464, .box false 37 (PV.ar 37 v3)), (4465, .box false 118 (PV.ar 118 v4)), (4466, .box false 112 (PV.ar 112 v5)), (4467, .vec false 5 false v6), (4468, .box false 118 (PV.ar 118 v7))]) (kNorm tau 0 nx28_3 k) = lp28_3 f (fun x0 x1 x2 x3 x4 x5 x6 => k (Ex.exit 6) (fillS nx28_3 N28 [.ptr 4464 [], .ptr 4465 [], .ptr 4466 [], .ow 5 4467 [] 0 x0 none, .ptr 4468 [], .sc (.int .i64 x1)] [(4464, .box false 37 (PV.ar 37 x2)), (4465, .box false 118 (PV.ar 118 x3)), (4466, .box false 112 (PV.ar 112 x4)), (4467, .vec false 5 false x5), (4468, .box false 118 (PV.ar 118 x6))])) n v0 v1 v2 v3 v4 v5 v6 v7 | 0, _, _, _, _, _, _, _, _ => rfl | n + 1, v0, v1, v2, v3, v4, v5, v6, v7 => (lpR28_3 f k n v0 v1 v2 v3 v4 v5 v6 v7).trans (congrArg (fun r => lpS28_3 f r (fun x0 x1 x2 x3 x4 x5 x6 => k (Ex.exit 6) (fillS nx28_3 N28 [.ptr 4464 [], .ptr 4465 [], .ptr 4466 [], .ow 5 4467 [] 0 x0 none, .ptr 4468 [], .sc (.int .i64 x1)] [(4464, .box false 37 (PV.ar 37 x2)), (4465, .box false 118 (PV.ar 118 x3)), (4466, .box false 112 (PV.ar 112 x4)), (4467, .vec false 5 false x5), (4468, .box false 118 (PV.ar 118 x6))])) v0 v1 v2 v3 v4 v5 v6 v7) (by funext v0 v1 v2 v3 v4 v5 v6 v7; exact lpE28_3 f k n v0 v1 v2 v3 v4 v5 v6 v7))
def r28_3 (f : Nat) : List PV → List (Nat × Ent) → Kont → Option Res
  | [.ptr 4464 [], .ptr 4465 [], .ptr 4466 [], .ow 5 4467 [] 0 v0 none, .ptr 4468 [], .sc (.int .i64 v1),
  PV.sc
    (Value.int IntKind.i64
      v2)], [(4464, .box false 37 (PV.ar 37 v3)), (4465, .box false 118 (PV.ar 118 v4)), (4466, .box false 112 (PV.ar 112 v5)), (4467, .vec false 5 false v6),
  (4468,
    Ent.box false 118
      (PV.ar 118
        v7))], k => lp28_3 f (fun x0 x1 x2 x3 x4 x5 x6 => k (Ex.exit
  6) (fillS nx28_3 N28 [.ptr 4464 [], .ptr 4465 [], .ptr 4466 [], .ow 5 4467 [] 0 x0 none, .ptr 4468 [],
  PV.sc
    (Value.int IntKind.i64
      x1)] [(4464, .box false 37 (PV.ar 37 x2)), (4465, .box false 118 (PV.ar 118 x3)), (4466, .box false 112 (PV.ar 112 x4)), (4467, .vec false 5 false x5),
  (4468, .box false 118 (PV.ar 118 x6))])) f v0 v1 v2 v3 v4 v5 v6 v7
  | _, _, _ => none
theorem it28_3 (f : Nat) : items c28_3 x28_3 = [] := by kernel_rfl
theorem i17_3 (f : Nat) : (Item.l c28_3 nm28_3 N28 (r28_3 f)).Ok tau Try.prog 0 := loop_item tabOk F28_ok mixed (x := x28_3) (nm2 := nx28_3) (anOk_items _ _ (by rw [it28_3 f]; intro q hq; cases hq)) fun vs hp k res hr => by
  unfold r28_3 at hr
  split at hr
  · exact ⟨f, 0, (lpE28_3 f _ f _ _ _ _ _ _ _ _ ).trans hr⟩
  · cases hr
def lpS28_4 (f : Nat) (rc : Nat → Int → Int → List PV → List PV → List PV → List PV → List PV → Option Res) (k0 : Nat → Int → List PV → List PV → List PV → List PV → List PV → Option Res) (v0 : Nat) (v1 : Int) (v2 : Int) (v3 : List PV) (v4 : List PV) (v5 : List PV) (v6 : List PV) (v7 : List PV) : Option Res := bif decide (v2 < 64) then bif decide (0 ≤ IntKind.i64.wrap (v2 - 15)) && decide (IntKind.i64.wrap (v2 - 15) < zi 64) && true then bif PV.isInt IntKind.u32 (getP (PV.ar 118 v7) [(IntKind.i64.wrap (v2 - 15)).toNat]) && true then bif decide (0 ≤ IntKind.i64.wrap (v2 - 2)) && decide (IntKind.i64.wrap (v2 - 2) < zi 64) && true then bif PV.isInt IntKind.u32 (getP (PV.ar 118 v7) [(IntKind.i64.wrap (v2 - 2)).toNat]) && true then bif decide (0 ≤ IntKind.i64.wrap (v2 - 7)) && decide (IntKind.i64.wrap (v2 - 7) < zi 64) && true then bif PV.isInt IntKind.u32 (getP (PV.ar 118 v7) [(IntKind.i64.wrap (v2 - 7)).toNat]) && true then bif decide (0 ≤ IntKind.i64.wrap (v2 - 16)) && decide (IntKind.i64.wrap (v2 - 16) < zi 64) && true then bif PV.isInt IntKind.u32 (getP (PV.ar 118 v7) [(IntKind.i64.wrap (v2 - 16)).toNat]) && true then bif decide (0 ≤ v2) && decide (v2 < zi 64) && true then rc v0 v1 (IntKind.i64.wrap (v2 + 1)) v3 v4 v5 v6 (v7.set v2.toNat (.sc (.int .u32 (IntKind.u32.wrap (IntKind.u32.wrap (IntKind.u32.wrap (bitI BinOp.xor IntKind.u32 (bitI BinOp.xor IntKind.u32 (rr (getP (PV.ar 118 v7) [(IntKind.i64.wrap (v2 - 2)).toNat]).int 17) (rr (getP (PV.ar 118 v7) [(IntKind.i64.wrap (v2 - 2)).toNat]).int 19)) (shrI IntKind.u32 (getP (PV.ar 118 v7) [(IntKind.i64.wrap (v2 - 2)).toNat]).int 10) + (getP (PV.ar 118 v7) [(IntKind.i64.wrap (v2 - 7)).toNat]).int) + bitI BinOp.xor IntKind.u32 (bitI BinOp.xor IntKind.u32 (rr (getP (PV.ar 118 v7) [(IntKind.i64.wrap (v2 - 15)).toNat]).int 7) (rr (getP (PV.ar 118 v7) [(IntKind.i64.wrap (v2 - 15)).toNat]).int 18)) (shrI IntKind.u32 (getP (PV.ar 118 v7) [(IntKind.i64.wrap (v2 - 15)).toNat]).int 3)) + (getP (PV.ar 118 v7) [(IntKind.i64.wrap (v2 - 16)).toNat]).int))))) else none else none else none else none else none else none else none else none else none else k0 v0 v1 v3 v4 v5 v6 v7
def lp28_4 (f : Nat) (k0 : Nat → Int → List PV → List PV → List PV → List PV → List PV → Option Res) : Nat → Nat → Int → Int → List PV → List PV → List PV → List PV → List PV → Option Res
  | 0, _, _, _, _, _, _, _, _ => none
  | n + 1, v0, v1, v2, v3, v4, v5, v6, v7 => lpS28_4 f (lp28_4 f k0 n) k0 v0 v1 v2 v3 v4 v5 v6 v7
theorem lpR28_4 (f : Nat) (k : Kont) (n : Nat) (v0 : Nat) (v1 : Int) (v2 : Int) (v3 : List PV) (v4 : List PV) (v5 : List PV) (v6 : List PV) (v7 : List PV) : evLoop tau 0 nm28_4 (fun s k => ev tau F28 0 0 c28_4 (x28_4 ) s k) (n + 1) (fillS nm28_4 N28 [.ptr 4464 [], .ptr 4465 [], .ptr 4466 [], .ow 5 4467 [] 0 v0 none, .ptr 4468 [], .sc (.int .i64 v1), .sc (.int .i64 v2)] [(4464, .box false 37 (PV.ar 37 v3)), (4465, .box false 118 (PV.ar 118 v4)), (4466, .box false 112 (PV.ar 112 v5)), (4467, .vec false 5 false v6), (4468, .box false 118 (PV.ar 118 v7))]) (kNorm tau 0 nx28_4 k) = lpS28_4 f (fun v0 v1 v2 v3 v4 v5 v6 v7 => evLoop tau 0 nm28_4 (fun s k => ev tau F28 0 0 c28_4 (x28_4 ) s k) n (fillS nm28_4 N28 [.ptr 4464 [], .ptr 4465 [], .ptr 4466 [], .ow 5 4467 [] 0 v0 none, .ptr 4468 [], .sc (.int .i64 v1), .sc (.int .i64 v2)] [(4464, .box false 37 (PV.ar 37 v3)), (4465, .box false 118 (PV.ar 118 v4)), (4466, .box false 112 (PV.ar 112 v5)), (4467, .vec false 5 false v6), (4468, .box false 118 (PV.ar 118 v7))]) (kNorm tau 0 nx28_4 k)) (fun x0 x1 x2 x3 x4 x5 x6 => k (Ex.exit 8) (fillS nx28_4 N28 [.ptr 4464 [], .ptr 4465 [], .ptr 4466 [], .ow 5 4467 [] 0 x0 none, .ptr 4468 [], .sc (.int .i64 x1)] [(4464, .box false 37 (PV.ar 37 x2)), (4465, .box false 118 (PV.ar 118 x3)), (4466, .box false 112 (PV.ar 112 x4)), (4467, .vec false 5 false x5), (4468, .box false 118 (PV.ar 118 x6))])) v0 v1 v2 v3 v4 v5 v6 v7 := by kernel_rfl
theorem lpE28_4 (f : Nat) (k : Kont) : ∀ (n : Nat) (v0 : Nat) (v1 : Int) (v2 : Int) (v3 : List PV) (v4 : List PV) (v5 : List PV) (v6 : List PV) (v7 : List PV), evLoop tau 0 nm28_4 (fun s k => ev tau F28 0 0 c28_4 (x28_4 ) s k) n (fillS nm28_4 N28 [.ptr 4464 [], .ptr 4465 [], .ptr 4466 [], .ow 5 4467 [] 0 v0 none, .ptr 4468 [], .sc (.int .i64 v1), .sc (.int .i64 v2)] [(4464, .box false 37 (PV.ar 37 v3)), (4465, .box false 118 (PV.ar 118 v4)), (4466, .box false 112 (PV.ar 112 v5)), (4467, .vec false 5 false v6), (4468, .box false 118 (PV.ar 118 v7))]) (kNorm tau 0 nx28_4 k) = lp28_4 f (fun x0 x1 x2 x3 x4 x5 x6 => k (Ex.exit 8) (fillS nx28_4 N28 [.ptr 4464 [], .ptr 4465 [], .ptr 4466 [], .ow 5 4467 [] 0 x0 none, .ptr 4468 [], .sc (.int .i64 x1)] [(4464, .box false 37 (PV.ar 37 x2)), (4465, .box false 118 (PV.ar 118 x3)), (4466, .box false 112 (PV.ar 112 x4)), (4467, .vec false 5 false x5), (4468, .box false 118 (PV.ar 118 x6))])) n v0 v1 v2 v3 v4 v5 v6 v7 | 0, _, _, _, _, _, _, _, _ => rfl | n + 1, v0, v1, v2, v3, v4, v5, v6, v7 => (lpR28_4 f k n v0 v1 v2 v3 v4 v5 v6 v7).trans (congrArg (fun r => lpS28_4 f r (fun x0 x1 x2 x3 x4 x5 x6 => k (Ex.exit 8) (fillS nx28_4 N28 [.ptr 4464 [], .ptr 4465 [], .ptr 4466 [], .ow 5 4467 [] 0 x0 none, .ptr 4468 [], .sc (.int .i64 x1)] [(4464, .box false 37 (PV.ar 37 x2)), (4465, .box false 118 (PV.ar 118 x3)), (4466, .box false 112 (PV.ar 112 x4)), (4467, .vec false 5 false x5), (4468, .box false 118 (PV.ar 118 x6))])) v0 v1 v2 v3 v4 v5 v6 v7) (by funext v0 v1 v2 v3 v4 v5 v6 v7; exact lpE28_4 f k n v0 v1 v2 v3 v4 v5 v6 v7))
def r28_4 (f : Nat) : List PV → List (Nat × Ent) → Kont → Option Res
  | [.ptr 4464 [], .ptr 4465 [], .ptr 4466 [], .ow 5 4467 [] 0 v0 none, .ptr 4468 [], .sc (.int .i64 v1),
  PV.sc
    (Value.int IntKind.i64
      v2)], [(4464, .box false 37 (PV.ar 37 v3)), (4465, .box false 118 (PV.ar 118 v4)), (4466, .box false 112 (PV.ar 112 v5)), (4467, .vec false 5 false v6),
  (4468,
    Ent.box false 118
      (PV.ar 118
        v7))], k => lp28_4 f (fun x0 x1 x2 x3 x4 x5 x6 => k (Ex.exit
  8) (fillS nx28_4 N28 [.ptr 4464 [], .ptr 4465 [], .ptr 4466 [], .ow 5 4467 [] 0 x0 none, .ptr 4468 [],
  PV.sc
    (Value.int IntKind.i64
      x1)] [(4464, .box false 37 (PV.ar 37 x2)), (4465, .box false 118 (PV.ar 118 x3)), (4466, .box false 112 (PV.ar 112 x4)), (4467, .vec false 5 false x5),
  (4468, .box false 118 (PV.ar 118 x6))])) f v0 v1 v2 v3 v4 v5 v6 v7
  | _, _, _ => none
theorem it28_4 (f : Nat) : items c28_4 x28_4 = [] := by kernel_rfl
theorem i17_4 (f : Nat) : (Item.l c28_4 nm28_4 N28 (r28_4 f)).Ok tau Try.prog 0 := loop_item tabOk F28_ok mixed (x := x28_4) (nm2 := nx28_4) (anOk_items _ _ (by rw [it28_4 f]; intro q hq; cases hq)) fun vs hp k res hr => by
  unfold r28_4 at hr
  split at hr
  · exact ⟨f, 0, (lpE28_4 f _ f _ _ _ _ _ _ _ _ ).trans hr⟩
  · cases hr
def lpS28_5 (f : Nat) (rc : Nat → Int → Int → List PV → List PV → List PV → List PV → List PV → List PV → Option Res) (k0 : Nat → Int → List PV → List PV → List PV → List PV → List PV → List PV → Option Res) (v0 : Nat) (v1 : Int) (v2 : Int) (v3 : List PV) (v4 : List PV) (v5 : List PV) (v6 : List PV) (v7 : List PV) (v8 : List PV) : Option Res := bif decide (v2 < 64) then bif PV.isInt IntKind.u32 (getP (PV.ar 112 v8) [4]) && true then bif PV.isInt IntKind.u32 (getP (PV.ar 112 v8) [7]) && true then bif PV.isInt IntKind.u32 (getP (PV.ar 112 v8) [5]) && true then bif PV.isInt IntKind.u32 (getP (PV.ar 112 v8) [6]) && true then bif decide (0 ≤ v2) && decide (v2 < zi 64) && true then bif PV.isInt IntKind.u32 (getP (PV.ar 118 v4) [v2.toNat]) && true then bif decide (0 ≤ v2) && decide (v2 < zi 64) && true then bif PV.isInt IntKind.u32 (getP (PV.ar 118 v7) [v2.toNat]) && true then bif PV.isInt IntKind.u32 (getP (PV.ar 112 v8) [0]) && true then bif PV.isInt IntKind.u32 (getP (PV.ar 112 v8) [0]) && true then bif PV.isInt IntKind.u32 (getP (PV.ar 112 v8) [0]) && true then bif PV.isInt IntKind.u32 (getP (PV.ar 112 v8) [0]) && true then bif PV.isInt IntKind.u32 (getP (PV.ar 112 v8) [1]) && true then bif PV.isInt IntKind.u32 (getP (PV.ar 112 v8) [0]) && true then bif PV.isInt IntKind.u32 (getP (PV.ar 112 v8) [2]) && true then bif PV.isInt IntKind.u32 (getP (PV.ar 112 v8) [1]) && true then bif PV.isInt IntKind.u32 (getP (PV.ar 112 v8) [2]) && true then bif PV.isInt IntKind.u32 (getP (PV.ar 112 v8) [0]) && true then bif PV.isInt IntKind.u32 (getP (PV.ar 112 v8) [1]) && true then bif PV.isInt IntKind.u32 (getP (PV.ar 112 v8) [2]) && true then bif PV.isInt IntKind.u32 (getP (PV.ar 112 v8) [3]) && true then bif PV.isInt IntKind.u32 (getP (PV.ar 112 v8) [4]) && true then bif PV.isInt IntKind.u32 (getP (PV.ar 112 v8) [5]) && true then bif PV.isInt IntKind.u32 (getP (PV.ar 112 v8) [6]) && true then rc v0 v1 (IntKind.i64.wrap (v2 + 1)) v3 v4 v5 v6 v7 ([.sc (.int .u32 (IntKind.u32.wrap (IntKind.u32.wrap (IntKind.u32.wrap (IntKind.u32.wrap (IntKind.u32.wrap ((getP (PV.ar 112 v8) [7]).int + bitI BinOp.xor IntKind.u32 (bitI BinOp.xor IntKind.u32 (rr (getP (PV.ar 112 v8) [4]).int 6) (rr (getP (PV.ar 112 v8) [4]).int 11)) (rr (getP (PV.ar 112 v8) [4]).int 25)) + bitI BinOp.xor IntKind.u32 (bitI BinOp.and IntKind.u32 (getP (PV.ar 112 v8) [4]).int (getP (PV.ar 112 v8) [5]).int) (bitI BinOp.and IntKind.u32 (bitI BinOp.xor IntKind.u32 (Int.ofNat (2 ^ IntKind.u32.bits - Nat.succ 0)) (getP (PV.ar 112 v8) [4]).int) (getP (PV.ar 112 v8) [6]).int)) + (getP (PV.ar 118 v4) [v2.toNat]).int) + (getP (PV.ar 118 v7) [v2.toNat]).int) + IntKind.u32.wrap (bitI BinOp.xor IntKind.u32 (bitI BinOp.xor IntKind.u32 (rr (getP (PV.ar 112 v8) [0]).int 2) (rr (getP (PV.ar 112 v8) [0]).int 13)) (rr (getP (PV.ar 112 v8) [0]).int 22) + bitI BinOp.xor IntKind.u32 (bitI BinOp.xor IntKind.u32 (bitI BinOp.and IntKind.u32 (getP (PV.ar 112 v8) [0]).int (getP (PV.ar 112 v8) [1]).int) (bitI BinOp.and IntKind.u32 (getP (PV.ar 112 v8) [0]).int (getP (PV.ar 112 v8) [2]).int)) (bitI BinOp.and IntKind.u32 (getP (PV.ar 112 v8) [1]).int (getP (PV.ar 112 v8) [2]).int))))), .sc (.int .u32 (getP (PV.ar 112 v8) [0]).int), .sc (.int .u32 (getP (PV.ar 112 v8) [1]).int), .sc (.int .u32 (getP (PV.ar 112 v8) [2]).int), .sc (.int .u32 (IntKind.u32.wrap ((getP (PV.ar 112 v8) [3]).int + IntKind.u32.wrap (IntKind.u32.wrap (IntKind.u32.wrap (IntKind.u32.wrap ((getP (PV.ar 112 v8) [7]).int + bitI BinOp.xor IntKind.u32 (bitI BinOp.xor IntKind.u32 (rr (getP (PV.ar 112 v8) [4]).int 6) (rr (getP (PV.ar 112 v8) [4]).int 11)) (rr (getP (PV.ar 112 v8) [4]).int 25)) + bitI BinOp.xor IntKind.u32 (bitI BinOp.and IntKind.u32 (getP (PV.ar 112 v8) [4]).int (getP (PV.ar 112 v8) [5]).int) (bitI BinOp.and IntKind.u32 (bitI BinOp.xor IntKind.u32 (Int.ofNat (2 ^ IntKind.u32.bits - Nat.succ 0)) (getP (PV.ar 112 v8) [4]).int) (getP (PV.ar 112 v8) [6]).int)) + (getP (PV.ar 118 v4) [v2.toNat]).int) + (getP (PV.ar 118 v7) [v2.toNat]).int)))), .sc (.int .u32 (getP (PV.ar 112 v8) [4]).int), .sc (.int .u32 (getP (PV.ar 112 v8) [5]).int), .sc (.int .u32 (getP (PV.ar 112 v8) [6]).int)]) else none else none else none else none else none else none else none else none else none else none else none else none else none else none else none else none else none else none else none else none else none else none else none else none else k0 v0 v1 v3 v4 v5 v6 v7 v8
def lp28_5 (f : Nat) (k0 : Nat → Int → List
  PV → List PV → List PV → List PV → List PV → List PV → Option Res) : Nat → Nat → Int → Int → List PV → List PV → List PV → List PV → List PV → List PV → Option Res
  | 0, _, _, _, _, _, _, _, _, _ => none
  | n + 1, v0, v1, v2, v3, v4, v5, v6, v7, v8 => lpS28_5 f (lp28_5 f k0 n) k0 v0 v1 v2 v3 v4 v5 v6 v7 v8
theorem lpR28_5 (f : Nat) (k : Kont) (n : Nat) (v0 : Nat) (v1 : Int) (v2 : Int) (v3 : List PV) (v4 : List PV) (v5 : List PV) (v6 : List PV) (v7 : List PV) (v8 : List PV) : evLoop tau 0 nm28_5 (fun s k => ev tau F28 0 0 c28_5 (x28_5 ) s k) (n + 1) (fillS nm28_5 N28 [.ptr 4464 [], .ptr 4465 [], .ptr 4466 [], .ow 5 4467 [] 0 v0 none, .ptr 4468 [], .sc (.int .i64 v1), .ptr 4469 [], .sc (.int .i64 v2)] [(4464, .box false 37 (PV.ar 37 v3)), (4465, .box false 118 (PV.ar 118 v4)), (4466, .box false 112 (PV.ar 112 v5)), (4467, .vec false 5 false v6), (4468, .box false 118 (PV.ar 118 v7)), (4469, .box false 112 (PV.ar 112 v8))]) (kNorm tau 0 nx28_5 k) = lpS28_5 f (fun v0 v1 v2 v3 v4 v5 v6 v7 v8 => evLoop tau 0 nm28_5 (fun s k => ev tau F28 0 0 c28_5 (x28_5 ) s k) n (fillS nm28_5 N28 [.ptr 4464 [], .ptr 4465 [], .ptr 4466 [], .ow 5 4467 [] 0 v0 none, .ptr 4468 [], .sc (.int .i64 v1), .ptr 4469 [], .sc (.int .i64 v2)] [(4464, .box false 37 (PV.ar 37 v3)), (4465, .box false 118 (PV.ar 118 v4)), (4466, .box false 112 (PV.ar 112 v5)), (4467, .vec false 5 false v6), (4468, .box false 118 (PV.ar 118 v7)), (4469, .box false 112 (PV.ar 112 v8))]) (kNorm tau 0 nx28_5 k)) (fun x0 x1 x2 x3 x4 x5 x6 x7 => k (Ex.exit 10) (fillS nx28_5 N28 [.ptr 4464 [], .ptr 4465 [], .ptr 4466 [], .ow 5 4467 [] 0 x0 none, .ptr 4468 [], .sc (.int .i64 x1), .ptr 4469 []] [(4464, .box false 37 (PV.ar 37 x2)), (4465, .box false 118 (PV.ar 118 x3)), (4466, .box false 112 (PV.ar 112 x4)), (4467, .vec false 5 false x5), (4468, .box false 118 (PV.ar 118 x6)), (4469, .box false 112 (PV.ar 112 x7))])) v0 v1 v2 v3 v4 v5 v6 v7 v8 := by kernel_rfl
theorem lpE28_5 (f : Nat) (k : Kont) : ∀ (n : Nat) (v0 : Nat) (v1 : Int) (v2 : Int) (v3 : List PV) (v4 : List PV) (v5 : List PV) (v6 : List PV) (v7 : List PV) (v8 : List PV), evLoop tau 0 nm28_5 (fun s k => ev tau F28 0 0 c28_5 (x28_5 ) s k) n (fillS nm28_5 N28 [.ptr 4464 [], .ptr 4465 [], .ptr 4466 [], .ow 5 4467 [] 0 v0 none, .ptr 4468 [], .sc (.int .i64 v1), .ptr 4469 [], .sc (.int .i64 v2)] [(4464, .box false 37 (PV.ar 37 v3)), (4465, .box false 118 (PV.ar 118 v4)), (4466, .box false 112 (PV.ar 112 v5)), (4467, .vec false 5 false v6), (4468, .box false 118 (PV.ar 118 v7)), (4469, .box false 112 (PV.ar 112 v8))]) (kNorm tau 0 nx28_5 k) = lp28_5 f (fun x0 x1 x2 x3 x4 x5 x6 x7 => k (Ex.exit 10) (fillS nx28_5 N28 [.ptr 4464 [], .ptr 4465 [], .ptr 4466 [], .ow 5 4467 [] 0 x0 none, .ptr 4468 [], .sc (.int .i64 x1), .ptr 4469 []] [(4464, .box false 37 (PV.ar 37 x2)), (4465, .box false 118 (PV.ar 118 x3)), (4466, .box false 112 (PV.ar 112 x4)), (4467, .vec false 5 false x5), (4468, .box false 118 (PV.ar 118 x6)), (4469, .box false 112 (PV.ar 112 x7))])) n v0 v1 v2 v3 v4 v5 v6 v7 v8 | 0, _, _, _, _, _, _, _, _, _ => rfl | n + 1, v0, v1, v2, v3, v4, v5, v6, v7, v8 => (lpR28_5 f k n v0 v1 v2 v3 v4 v5 v6 v7 v8).trans (congrArg (fun r => lpS28_5 f r (fun x0 x1 x2 x3 x4 x5 x6 x7 => k (Ex.exit 10) (fillS nx28_5 N28 [.ptr 4464 [], .ptr 4465 [], .ptr 4466 [], .ow 5 4467 [] 0 x0 none, .ptr 4468 [], .sc (.int .i64 x1), .ptr 4469 []] [(4464, .box false 37 (PV.ar 37 x2)), (4465, .box false 118 (PV.ar 118 x3)), (4466, .box false 112 (PV.ar 112 x4)), (4467, .vec false 5 false x5), (4468, .box false 118 (PV.ar 118 x6)), (4469, .box false 112 (PV.ar 112 x7))])) v0 v1 v2 v3 v4 v5 v6 v7 v8) (by funext v0 v1 v2 v3 v4 v5 v6 v7 v8; exact lpE28_5 f k n v0 v1 v2 v3 v4 v5 v6 v7 v8))
def r28_5 (f : Nat) : List PV → List (Nat × Ent) → Kont → Option Res
  | [.ptr 4464 [], .ptr 4465 [], .ptr 4466 [], .ow 5 4467 [] 0 v0 none, .ptr 4468 [], .sc (.int .i64 v1), .ptr 4469 [],
  PV.sc
    (Value.int IntKind.i64
      v2)], [(4464, .box false 37 (PV.ar 37 v3)), (4465, .box false 118 (PV.ar 118 v4)), (4466, .box false 112 (PV.ar 112 v5)), (4467, .vec false 5 false v6),
  (4468, .box false 118 (PV.ar 118 v7)),
  (4469,
    Ent.box false 112
      (PV.ar 112
        v8))], k => lp28_5 f (fun x0 x1 x2 x3 x4 x5 x6 x7 => k (Ex.exit
  10) (fillS nx28_5 N28 [.ptr 4464 [], .ptr 4465 [], .ptr 4466 [], .ow 5 4467 [] 0 x0 none, .ptr 4468 [], .sc (.int .i64 x1),
  PV.ptr 4469
    []] [(4464, .box false 37 (PV.ar 37 x2)), (4465, .box false 118 (PV.ar 118 x3)), (4466, .box false 112 (PV.ar 112 x4)), (4467, .vec false 5 false x5),
  (4468, .box false 118 (PV.ar 118 x6)), (4469, .box false 112 (PV.ar 112 x7))])) f v0 v1 v2 v3 v4 v5 v6 v7 v8
  | _, _, _ => none
theorem it28_5 (f : Nat) : items c28_5 x28_5 = [] := by kernel_rfl
theorem i17_5 (f : Nat) : (Item.l c28_5 nm28_5 N28 (r28_5 f)).Ok tau Try.prog 0 := loop_item tabOk F28_ok mixed (x := x28_5) (nm2 := nx28_5) (anOk_items _ _ (by rw [it28_5 f]; intro q hq; cases hq)) fun vs hp k res hr => by
  unfold r28_5 at hr
  split at hr
  · exact ⟨f, 0, (lpE28_5 f _ f _ _ _ _ _ _ _ _ _ ).trans hr⟩
  · cases hr
def lpS28_6 (f : Nat) (rc : Nat → Int → Int → List PV → List PV → List PV → List PV → List PV → List PV → Option Res) (k0 : Nat → Int → List PV → List PV → List PV → List PV → List PV → Option Res) (v0 : Nat) (v1 : Int) (v2 : Int) (v3 : List PV) (v4 : List PV) (v5 : List PV) (v6 : List PV) (v7 : List PV) (v8 : List PV) : Option Res := bif decide (v2 < 8) then bif decide (0 ≤ v2) && decide (v2 < zi 8) && true then bif PV.isInt IntKind.u32 (getP (PV.ar 112 v5) [v2.toNat]) && true then bif decide (0 ≤ v2) && decide (v2 < zi 8) && true then bif PV.isInt IntKind.u32 (getP (PV.ar 112 v8) [v2.toNat]) && true then bif decide (0 ≤ v2) && decide (v2 < zi 8) && true then rc v0 v1 (IntKind.i64.wrap (v2 + 1)) v3 v4 (v5.set v2.toNat (.sc (.int .u32 (IntKind.u32.wrap ((getP (PV.ar 112 v5) [v2.toNat]).int + (getP (PV.ar 112 v8) [v2.toNat]).int))))) v6 v7 v8 else none else none else none else none else none else k0 v0 v1 v3 v4 v5 v6 v7
def lp28_6 (f : Nat) (k0 : Nat → Int → List PV → List PV → List PV → List PV → List PV → Option Res) : Nat → Nat → Int → Int → List PV → List PV → List PV → List PV → List PV → List PV → Option Res
  | 0, _, _, _, _, _, _, _, _, _ => none
  | n + 1, v0, v1, v2, v3, v4, v5, v6, v7, v8 => lpS28_6 f (lp28_6 f k0 n) k0 v0 v1 v2 v3 v4 v5 v6 v7 v8
theorem lpR28_6 (f : Nat) (k : Kont) (n : Nat) (v0 : Nat) (v1 : Int) (v2 : Int) (v3 : List PV) (v4 : List PV) (v5 : List PV) (v6 : List PV) (v7 : List PV) (v8 : List PV) : evLoop tau 0 nm28_6 (fun s k => ev tau F28 0 0 c28_6 (x28_6 ) s k) (n + 1) (fillS nm28_6 N28 [.ptr 4464 [], .ptr 4465 [], .ptr 4466 [], .ow 5 4467 [] 0 v0 none, .ptr 4468 [], .sc (.int .i64 v1), .ptr 4469 [], .sc (.int .i64 v2)] [(4464, .box false 37 (PV.ar 37 v3)), (4465, .box false 118 (PV.ar 118 v4)), (4466, .box false 112 (PV.ar 112 v5)), (4467, .vec false 5 false v6), (4468, .box false 118 (PV.ar 118 v7)), (4469, .box false 112 (PV.ar 112 v8))]) (kNorm tau 0 nx28_6 k) = lpS28_6 f (fun v0 v1 v2 v3 v4 v5 v6 v7 v8 => evLoop tau 0 nm28_6 (fun s k => ev tau F28 0 0 c28_6 (x28_6 ) s k) n (fillS nm28_6 N28 [.ptr 4464 [], .ptr 4465 [], .ptr 4466 [], .ow 5 4467 [] 0 v0 none, .ptr 4468 [], .sc (.int .i64 v1), .ptr 4469 [], .sc (.int .i64 v2)] [(4464, .box false 37 (PV.ar 37 v3)), (4465, .box false 118 (PV.ar 118 v4)), (4466, .box false 112 (PV.ar 112 v5)), (4467, .vec false 5 false v6), (4468, .box false 118 (PV.ar 118 v7)), (4469, .box false 112 (PV.ar 112 v8))]) (kNorm tau 0 nx28_6 k)) (fun x0 x1 x2 x3 x4 x5 x6 => k (Ex.exit 12) (fillS nx28_6 N28 [.ptr 4464 [], .ptr 4465 [], .ptr 4466 [], .ow 5 4467 [] 0 x0 none, .ptr 4468 [], .sc (.int .i64 x1)] [(4464, .box false 37 (PV.ar 37 x2)), (4465, .box false 118 (PV.ar 118 x3)), (4466, .box false 112 (PV.ar 112 x4)), (4467, .vec false 5 false x5), (4468, .box false 118 (PV.ar 118 x6))])) v0 v1 v2 v3 v4 v5 v6 v7 v8 := by kernel_rfl
theorem lpE28_6 (f : Nat) (k : Kont) : ∀ (n : Nat) (v0 : Nat) (v1 : Int) (v2 : Int) (v3 : List PV) (v4 : List PV) (v5 : List PV) (v6 : List PV) (v7 : List PV) (v8 : List PV), evLoop tau 0 nm28_6 (fun s k => ev tau F28 0 0 c28_6 (x28_6 ) s k) n (fillS nm28_6 N28 [.ptr 4464 [], .ptr 4465 [], .ptr 4466 [], .ow 5 4467 [] 0 v0 none, .ptr 4468 [], .sc (.int .i64 v1), .ptr 4469 [], .sc (.int .i64 v2)] [(4464, .box false 37 (PV.ar 37 v3)), (4465, .box false 118 (PV.ar 118 v4)), (4466, .box false 112 (PV.ar 112 v5)), (4467, .vec false 5 false v6), (4468, .box false 118 (PV.ar 118 v7)), (4469, .box false 112 (PV.ar 112 v8))]) (kNorm tau 0 nx28_6 k) = lp28_6 f (fun x0 x1 x2 x3 x4 x5 x6 => k (Ex.exit 12) (fillS nx28_6 N28 [.ptr 4464 [], .ptr 4465 [], .ptr 4466 [], .ow 5 4467 [] 0 x0 none, .ptr 4468 [], .sc (.int .i64 x1)] [(4464, .box false 37 (PV.ar 37 x2)), (4465, .box false 118 (PV.ar 118 x3)), (4466, .box false 112 (PV.ar 112 x4)), (4467, .vec false 5 false x5), (4468, .box false 118 (PV.ar 118 x6))])) n v0 v1 v2 v3 v4 v5 v6 v7 v8 | 0, _, _, _, _, _, _, _, _, _ => rfl | n + 1, v0, v1, v2, v3, v4, v5, v6, v7, v8 => (lpR28_6 f k n v0 v1 v2 v3 v4 v5 v6 v7 v8).trans (congrArg (fun r => lpS28_6 f r (fun x0 x1 x2 x3 x4 x5 x6 => k (Ex.exit 12) (fillS nx28_6 N28 [.ptr 4464 [], .ptr 4465 [], .ptr 4466 [], .ow 5 4467 [] 0 x0 none, .ptr 4468 [], .sc (.int .i64 x1)] [(4464, .box false 37 (PV.ar 37 x2)), (4465, .box false 118 (PV.ar 118 x3)), (4466, .box false 112 (PV.ar 112 x4)), (4467, .vec false 5 false x5), (4468, .box false 118 (PV.ar 118 x6))])) v0 v1 v2 v3 v4 v5 v6 v7 v8) (by funext v0 v1 v2 v3 v4 v5 v6 v7 v8; exact lpE28_6 f k n v0 v1 v2 v3 v4 v5 v6 v7 v8))
def r28_6 (f : Nat) : List PV → List (Nat × Ent) → Kont → Option Res
  | [.ptr 4464 [], .ptr 4465 [], .ptr 4466 [], .ow 5 4467 [] 0 v0 none, .ptr 4468 [], .sc (.int .i64 v1), .ptr 4469 [],
  PV.sc
    (Value.int IntKind.i64
      v2)], [(4464, .box false 37 (PV.ar 37 v3)), (4465, .box false 118 (PV.ar 118 v4)), (4466, .box false 112 (PV.ar 112 v5)), (4467, .vec false 5 false v6),
  (4468, .box false 118 (PV.ar 118 v7)),
  (4469,
    Ent.box false 112
      (PV.ar 112
        v8))], k => lp28_6 f (fun x0 x1 x2 x3 x4 x5 x6 => k (Ex.exit
  12) (fillS nx28_6 N28 [.ptr 4464 [], .ptr 4465 [], .ptr 4466 [], .ow 5 4467 [] 0 x0 none, .ptr 4468 [],
  PV.sc
    (Value.int IntKind.i64
      x1)] [(4464, .box false 37 (PV.ar 37 x2)), (4465, .box false 118 (PV.ar 118 x3)), (4466, .box false 112 (PV.ar 112 x4)), (4467, .vec false 5 false x5),
  (4468, .box false 118 (PV.ar 118 x6))])) f v0 v1 v2 v3 v4 v5 v6 v7 v8
  | _, _, _ => none
theorem it28_6 (f : Nat) : items c28_6 x28_6 = [] := by kernel_rfl
theorem i17_6 (f : Nat) : (Item.l c28_6 nm28_6 N28 (r28_6 f)).Ok tau Try.prog 0 := loop_item tabOk F28_ok mixed (x := x28_6) (nm2 := nx28_6) (anOk_items _ _ (by rw [it28_6 f]; intro q hq; cases hq)) fun vs hp k res hr => by
  unfold r28_6 at hr
  split at hr
  · exact ⟨f, 0, (lpE28_6 f _ f _ _ _ _ _ _ _ _ _ ).trans hr⟩
  · cases hr
def lpS28_2 (f : Nat) (rc : Nat → Int → List PV → List PV → List PV → List PV → List PV → Option Res) (k0 : List PV → List PV → Option Res) (v0 : Nat) (v1 : Int) (v2 : List PV) (v3 : List PV) (v4 : List PV) (v5 : List PV) (v6 : List PV) : Option Res := bif decide (v1 < zi v0) then lp28_3 f (fun x0_2 x1_2 x2_2 x3_2 x4_2 x5_2 x6_2 => lp28_4 f (fun x0_3 x1_3 x2_3 x3_3 x4_3 x5_3 x6_3 => lp28_5 f (fun x0_4 x1_4 x2_4 x3_4 x4_4 x5_4 x6_4 x7_4 => lp28_6 f (fun x0_5 x1_5 x2_5 x3_5 x4_5 x5_5 x6_5 => rc x0_5 (IntKind.i64.wrap (x1_5 + 64)) x2_5 x3_5 x4_5 x5_5 x6_5) f x0_4 x1_4 (0) x2_4 x3_4 x4_4 x5_4 x6_4 x7_4) f x0_3 x1_3 (0) x2_3 x3_3 x4_3 x5_3 x6_3 x4_3) f x0_2 x1_2 (16) x2_2 x3_2 x4_2 x5_2 x6_2) f v0 v1 (0) v2 v3 v4 v5 v6 else k0 v2 v4
def lp28_2 (f : Nat) (k0 : List PV → List PV → Option Res) : Nat → Nat → Int → List PV → List PV → List PV → List PV → List PV → Option Res
  | 0, _, _, _, _, _, _, _ => none
  | n + 1, v0, v1, v2, v3, v4, v5, v6 => lpS28_2 f (lp28_2 f k0 n) k0 v0 v1 v2 v3 v4 v5 v6
theorem lpR28_2 (f : Nat) (k : Kont) (n : Nat) (v0 : Nat) (v1 : Int) (v2 : List PV) (v3 : List PV) (v4 : List PV) (v5 : List PV) (v6 : List PV) : evLoop tau 0 nm28_2 (fun s k => ev tau F28 0 0 c28_2 (x28_2 (r28_3 f) (r28_4 f) (r28_5 f) (r28_6 f)) s k) (n + 1) (fillS nm28_2 N28 [.ptr 4464 [], .ptr 4465 [], .ptr 4466 [], .ow 5 4467 [] 0 v0 none, .ptr 4468 [], .sc (.int .i64 v1)] [(4464, .box false 37 (PV.ar 37 v2)), (4465, .box false 118 (PV.ar 118 v3)), (4466, .box false 112 (PV.ar 112 v4)), (4467, .vec false 5 false v5), (4468, .box false 118 (PV.ar 118 v6))]) (kNorm tau 0 nx28_2 k) = lpS28_2 f (fun v0 v1 v2 v3 v4 v5 v6 => evLoop tau 0 nm28_2 (fun s k => ev tau F28 0 0 c28_2 (x28_2 (r28_3 f) (r28_4 f) (r28_5 f) (r28_6 f)) s k) n (fillS nm28_2 N28 [.ptr 4464 [], .ptr 4465 [], .ptr 4466 [], .ow 5 4467 [] 0 v0 none, .ptr 4468 [], .sc (.int .i64 v1)] [(4464, .box false 37 (PV.ar 37 v2)), (4465, .box false 118 (PV.ar 118 v3)), (4466, .box false 112 (PV.ar 112 v4)), (4467, .vec false 5 false v5), (4468, .box false 118 (PV.ar 118 v6))]) (kNorm tau 0 nx28_2 k)) (fun x0 x1 => k (Ex.exit 4) (fillS nx28_2 N28 [.ptr 4464 [], .ptr 4465 []] [(4464, .box false 37 (PV.ar 37 x0)), (4465, .box false 112 (PV.ar 112 x1))])) v0 v1 v2 v3 v4 v5 v6 := by kernel_rfl
theorem lpE28_2 (f : Nat) (k : Kont) : ∀ (n : Nat) (v0 : Nat) (v1 : Int) (v2 : List PV) (v3 : List PV) (v4 : List PV) (v5 : List PV) (v6 : List PV), evLoop tau 0 nm28_2 (fun s k => ev tau F28 0 0 c28_2 (x28_2 (r28_3 f) (r28_4 f) (r28_5 f) (r28_6 f)) s k) n (fillS nm28_2 N28 [.ptr 4464 [], .ptr 4465 [], .ptr 4466 [], .ow 5 4467 [] 0 v0 none, .ptr 4468 [], .sc (.int .i64 v1)] [(4464, .box false 37 (PV.ar 37 v2)), (4465, .box false 118 (PV.ar 118 v3)), (4466, .box false 112 (PV.ar 112 v4)), (4467, .vec false 5 false v5), (4468, .box false 118 (PV.ar 118 v6))]) (kNorm tau 0 nx28_2 k) = lp28_2 f (fun x0 x1 => k (Ex.exit 4) (fillS nx28_2 N28 [.ptr 4464 [], .ptr 4465 []] [(4464, .box false 37 (PV.ar 37 x0)), (4465, .box false 112 (PV.ar 112 x1))])) n v0 v1 v2 v3 v4 v5 v6 | 0, _, _, _, _, _, _, _ => rfl | n + 1, v0, v1, v2, v3, v4, v5, v6 => (lpR28_2 f k n v0 v1 v2 v3 v4 v5 v6).trans (congrArg (fun r => lpS28_2 f r (fun x0 x1 => k (Ex.exit 4) (fillS nx28_2 N28 [.ptr 4464 [], .ptr 4465 []] [(4464, .box false 37 (PV.ar 37 x0)), (4465, .box false 112 (PV.ar 112 x1))])) v0 v1 v2 v3 v4 v5 v6) (by funext v0 v1 v2 v3 v4 v5 v6; exact lpE28_2 f k n v0 v1 v2 v3 v4 v5 v6))
def r28_2 (f : Nat) : List PV → List (Nat × Ent) → Kont → Option Res
  | [.ptr 4464 [], .ptr 4465 [], .ptr 4466 [], .ow 5 4467 [] 0 v0 none, .ptr 4468 [],
  PV.sc
    (Value.int IntKind.i64
      v1)], [(4464, .box false 37 (PV.ar 37 v2)), (4465, .box false 118 (PV.ar 118 v3)), (4466, .box false 112 (PV.ar 112 v4)), (4467, .vec false 5 false v5),
  (4468,
    Ent.box false 118
      (PV.ar 118
        v6))], k => lp28_2 f (fun x0 x1 => k (Ex.exit
  4) (fillS nx28_2 N28 [.ptr 4464 [], .ptr 4465 []] [(4464, .box false 37 (PV.ar 37 x0)), (4465, .box false 112 (PV.ar 112 x1))])) f v0 v1 v2 v3 v4 v5 v6
  | _, _, _ => none
theorem it28_2 (f : Nat) : items c28_2 (x28_2 (r28_3 f) (r28_4 f) (r28_5 f) (r28_6 f)) = [.l c28_3 nm28_3 N28 (r28_3 f), .l c28_4 nm28_4 N28 (r28_4 f), .l c28_5 nm28_5 N28 (r28_5 f), .l c28_6 nm28_6 N28 (r28_6 f)] := by kernel_rfl
theorem i17_2 (f : Nat) : (Item.l c28_2 nm28_2 N28 (r28_2 f)).Ok tau Try.prog 0 := loop_item tabOk F28_ok mixed (x := (x28_2 (r28_3 f) (r28_4 f) (r28_5 f) (r28_6 f))) (nm2 := nx28_2) (anOk_items _ _ (by rw [it28_2 f]; simp only [List.forall_mem_cons, List.not_mem_nil, false_implies, implies_true, and_true]; exact ⟨i17_3 f, i17_4 f, i17_5 f, i17_6 f⟩)) fun vs hp k res hr => by
  unfold r28_2 at hr
  split at hr
  · exact ⟨f, 0, (lpE28_2 f _ f _ _ _ _ _ _ _ ).trans hr⟩
  · cases hr
def lpS28_7 (f : Nat) (rc : Int → List PV → List PV → List PV → Option Res) (k0 : List PV → List PV → Option Res) (v0 : Int) (v1 : List PV) (v2 : List PV) (v3 : List PV) : Option Res := bif decide (v0 < 8) then bif decide (0 ≤ v0) && decide (v0 < zi 8) && true then bif PV.isInt IntKind.u32 (getP (PV.ar 112 v2) [v0.toNat]) && true then bif decide (0 ≤ v0) && decide (v0 < zi 8) && true then bif PV.isInt IntKind.u32 (getP (PV.ar 112 v2) [v0.toNat]) && true then bif decide (0 ≤ v0) && decide (v0 < zi 8) && true then bif PV.isInt IntKind.u32 (getP (PV.ar 112 v2) [v0.toNat]) && true then bif decide (0 ≤ v0) && decide (v0 < zi 8) && true then bif PV.isInt IntKind.u32 (getP (PV.ar 112 v2) [v0.toNat]) && true then bif decide (0 ≤ IntKind.i64.wrap (4 * v0)) && decide (IntKind.i64.wrap (4 * v0) < zi 32) && true then bif decide (0 ≤ IntKind.i64.wrap (IntKind.i64.wrap (4 * v0) + 1)) && decide (IntKind.i64.wrap (IntKind.i64.wrap (4 * v0) + 1) < zi 32) && true then bif decide (0 ≤ IntKind.i64.wrap (IntKind.i64.wrap (4 * v0) + 2)) && decide (IntKind.i64.wrap (IntKind.i64.wrap (4 * v0) + 2) < zi 32) && true then bif decide (0 ≤ IntKind.i64.wrap (IntKind.i64.wrap (4 * v0) + 3)) && decide (IntKind.i64.wrap (IntKind.i64.wrap (4 * v0) + 3) < zi 32) && true then rc (IntKind.i64.wrap (v0 + 1)) v1 v2 ((((v3.set (IntKind.i64.wrap (4 * v0)).toNat (.sc (.int .u8 (IntKind.u8.wrap (shrI IntKind.u32 (getP (PV.ar 112 v2) [v0.toNat]).int 24))))).set (IntKind.i64.wrap (IntKind.i64.wrap (4 * v0) + 1)).toNat (.sc (.int .u8 (IntKind.u8.wrap (shrI IntKind.u32 (getP (PV.ar 112 v2) [v0.toNat]).int 16))))).set (IntKind.i64.wrap (IntKind.i64.wrap (4 * v0) + 2)).toNat (.sc (.int .u8 (IntKind.u8.wrap (shrI IntKind.u32 (getP (PV.ar 112 v2) [v0.toNat]).int 8))))).set (IntKind.i64.wrap (IntKind.i64.wrap (4 * v0) + 3)).toNat (.sc (.int .u8 (IntKind.u8.wrap (getP (PV.ar 112 v2) [v0.toNat]).int)))) else none else none else none else none else none else none else none else none else none else none else none else none else k0 v1 v3
def lp28_7 (f : Nat) (k0 : List PV → List PV → Option Res) : Nat → Int → List PV → List PV → List PV → Option Res
  | 0, _, _, _, _ => none
  | n + 1, v0, v1, v2, v3 => lpS28_7 f (lp28_7 f k0 n) k0 v0 v1 v2 v3
theorem lpR28_7 (f : Nat) (k : Kont) (n : Nat) (v0 : Int) (v1 : List PV) (v2 : List PV) (v3 : List PV) : evLoop tau 0 nm28_7 (fun s k => ev tau F28 0 0 c28_7 (x28_7 ) s k) (n + 1) (fillS nm28_7 N28 [.ptr 4464 [], .ptr 4465 [], .ptr 4466 [], .sc (.int .i64 v0)] [(4464, .box false 37 (PV.ar 37 v1)), (4465, .box false 112 (PV.ar 112 v2)), (4466, .box false 37 (PV.ar 37 v3))]) (kNorm tau 0 nx28_7 k) = lpS28_7 f (fun v0 v1 v2 v3 => evLoop tau 0 nm28_7 (fun s k => ev tau F28 0 0 c28_7 (x28_7 ) s k) n (fillS nm28_7 N28 [.ptr 4464 [], .ptr 4465 [], .ptr 4466 [], .sc (.int .i64 v0)] [(4464, .box false 37 (PV.ar 37 v1)), (4465, .box false 112 (PV.ar 112 v2)), (4466, .box false 37 (PV.ar 37 v3))]) (kNorm tau 0 nx28_7 k)) (fun x0 x1 => k (Ex.exit 14) (fillS nx28_7 N28 [.ptr 4464 [], .ptr 4465 []] [(4464, .box false 37 (PV.ar 37 x0)), (4465, .box false 37 (PV.ar 37 x1))])) v0 v1 v2 v3 := by kernel_rfl
theorem lpE28_7 (f : Nat) (k : Kont) : ∀ (n : Nat) (v0 : Int) (v1 : List PV) (v2 : List PV) (v3 : List PV), evLoop tau 0 nm28_7 (fun s k => ev tau F28 0 0 c28_7 (x28_7 ) s k) n (fillS nm28_7 N28 [.ptr 4464 [], .ptr 4465 [], .ptr 4466 [], .sc (.int .i64 v0)] [(4464, .box false 37 (PV.ar 37 v1)), (4465, .box false 112 (PV.ar 112 v2)), (4466, .box false 37 (PV.ar 37 v3))]) (kNorm tau 0 nx28_7 k) = lp28_7 f (fun x0 x1 => k (Ex.exit 14) (fillS nx28_7 N28 [.ptr 4464 [], .ptr 4465 []] [(4464, .box false 37 (PV.ar 37 x0)), (4465, .box false 37 (PV.ar 37 x1))])) n v0 v1 v2 v3 | 0, _, _, _, _ => rfl | n + 1, v0, v1, v2, v3 => (lpR28_7 f k n v0 v1 v2 v3).trans (congrArg (fun r => lpS28_7 f r (fun x0 x1 => k (Ex.exit 14) (fillS nx28_7 N28 [.ptr 4464 [], .ptr 4465 []] [(4464, .box false 37 (PV.ar 37 x0)), (4465, .box false 37 (PV.ar 37 x1))])) v0 v1 v2 v3) (by funext v0 v1 v2 v3; exact lpE28_7 f k n v0 v1 v2 v3))
def r28_7 (f : Nat) : List PV → List (Nat × Ent) → Kont → Option Res
  | [.ptr 4464 [], .ptr 4465 [], .ptr 4466 [],
  PV.sc
    (Value.int IntKind.i64
      v0)], [(4464, .box false 37 (PV.ar 37 v1)), (4465, .box false 112 (PV.ar 112 v2)),
  (4466,
    Ent.box false 37
      (PV.ar 37
        v3))], k => lp28_7 f (fun x0 x1 => k (Ex.exit
  14) (fillS nx28_7 N28 [.ptr 4464 [], .ptr 4465 []] [(4464, .box false 37 (PV.ar 37 x0)), (4465, .box false 37 (PV.ar 37 x1))])) f v0 v1 v2 v3
  | _, _, _ => none
theorem it28_7 (f : Nat) : items c28_7 x28_7 = [] := by kernel_rfl
theorem i17_7 (f : Nat) : (Item.l c28_7 nm28_7 N28 (r28_7 f)).Ok tau Try.prog 0 := loop_item tabOk F28_ok mixed (x := x28_7) (nm2 := nx28_7) (anOk_items _ _ (by rw [it28_7 f]; intro q hq; cases hq)) fun vs hp k res hr => by
  unfold r28_7 at hr
  split at hr
  · exact ⟨f, 0, (lpE28_7 f _ f _ _ _ _ ).trans hr⟩
  · cases hr
def g28 (f : Nat) (nl : Bool) (fl : Bool) (b : List PV) (k : Res → Option Res) : Option Res := bif roomy (0 + b.length) 1 && true then bif roomy (0 + b.length + 1) 1 && true then lp28_0 f (fun x0_0 x1_0 x2_0 x3_0 x4_0 x5_0 x6_0 x7_0 => lp28_1 f (fun x0_1 x1_1 x2_1 x3_1 x4_1 => lp28_2 f (fun x0_6 x1_6 => lp28_7 f (fun x0_7 x1_7 => k (Res.mk (.ar 37 x1_7) [] [])) f (0) x0_6 x1_6 ([.sc (.int .u8 0), .sc (.int .u8 0), .sc (.int .u8 0), .sc (.int .u8 0), .sc (.int .u8 0), .sc (.int .u8 0), .sc (.int .u8 0), .sc (.int .u8 0), .sc (.int .u8 0), .sc (.int .u8 0), .sc (.int .u8 0), .sc (.int .u8 0), .sc (.int .u8 0), .sc (.int .u8 0), .sc (.int .u8 0), .sc (.int .u8 0), .sc (.int .u8 0), .sc (.int .u8 0), .sc (.int .u8 0), .sc (.int .u8 0), .sc (.int .u8 0), .sc (.int .u8 0), .sc (.int .u8 0), .sc (.int .u8 0), .sc (.int .u8 0), .sc (.int .u8 0), .sc (.int .u8 0), .sc (.int .u8 0), .sc (.int .u8 0), .sc (.int .u8 0), .sc (.int .u8 0), .sc (.int .u8 0)])) f x0_1 (0) x1_1 x2_1 x3_1 x4_1 ([.sc (.int .u32 0), .sc (.int .u32 0), .sc (.int .u32 0), .sc (.int .u32 0), .sc (.int .u32 0), .sc (.int .u32 0), .sc (.int .u32 0), .sc (.int .u32 0), .sc (.int .u32 0), .sc (.int .u32 0), .sc (.int .u32 0), .sc (.int .u32 0), .sc (.int .u32 0), .sc (.int .u32 0), .sc (.int .u32 0), .sc (.int .u32 0), .sc (.int .u32 0), .sc (.int .u32 0), .sc (.int .u32 0), .sc (.int .u32 0), .sc (.int .u32 0), .sc (.int .u32 0), .sc (.int .u32 0), .sc (.int .u32 0), .sc (.int .u32 0), .sc (.int .u32 0), .sc (.int .u32 0), .sc (.int .u32 0), .sc (.int .u32 0), .sc (.int .u32 0), .sc (.int .u32 0), .sc (.int .u32 0), .sc (.int .u32 0), .sc (.int .u32 0), .sc (.int .u32 0), .sc (.int .u32 0), .sc (.int .u32 0), .sc (.int .u32 0), .sc (.int .u32 0), .sc (.int .u32 0), .sc (.int .u32 0), .sc (.int .u32 0), .sc (.int .u32 0), .sc (.int .u32 0), .sc (.int .u32 0), .sc (.int .u32 0), .sc (.int .u32 0), .sc (.int .u32 0), .sc (.int .u32 0), .sc (.int .u32 0), .sc (.int .u32 0), .sc (.int .u32 0), .sc (.int .u32 0), .sc (.int .u32 0), .sc (.int .u32 0), .sc (.int .u32 0), .sc (.int .u32 0), .sc (.int .u32 0), .sc (.int .u32 0), .sc (.int .u32 0), .sc (.int .u32 0), .sc (.int .u32 0), .sc (.int .u32 0), .sc (.int .u32 0)])) f x3_0 (IntKind.u64.wrap (IntKind.u64.wrap (zi x2_0.length) * 8)) (7) x4_0 x5_0 x6_0 x7_0) f nl fl b (0 + b.length + 1) ([.sc (.int .u8 0), .sc (.int .u8 0), .sc (.int .u8 0), .sc (.int .u8 0), .sc (.int .u8 0), .sc (.int .u8 0), .sc (.int .u8 0), .sc (.int .u8 0), .sc (.int .u8 0), .sc (.int .u8 0), .sc (.int .u8 0), .sc (.int .u8 0), .sc (.int .u8 0), .sc (.int .u8 0), .sc (.int .u8 0), .sc (.int .u8 0), .sc (.int .u8 0), .sc (.int .u8 0), .sc (.int .u8 0), .sc (.int .u8 0), .sc (.int .u8 0), .sc (.int .u8 0), .sc (.int .u8 0), .sc (.int .u8 0), .sc (.int .u8 0), .sc (.int .u8 0), .sc (.int .u8 0), .sc (.int .u8 0), .sc (.int .u8 0), .sc (.int .u8 0), .sc (.int .u8 0), .sc (.int .u8 0)]) ([.sc (.int .u32 1116352408), .sc (.int .u32 1899447441), .sc (.int .u32 3049323471), .sc (.int .u32 3921009573), .sc (.int .u32 961987163), .sc (.int .u32 1508970993), .sc (.int .u32 2453635748), .sc (.int .u32 2870763221), .sc (.int .u32 3624381080), .sc (.int .u32 310598401), .sc (.int .u32 607225278), .sc (.int .u32 1426881987), .sc (.int .u32 1925078388), .sc (.int .u32 2162078206), .sc (.int .u32 2614888103), .sc (.int .u32 3248222580), .sc (.int .u32 3835390401), .sc (.int .u32 4022224774), .sc (.int .u32 264347078), .sc (.int .u32 604807628), .sc (.int .u32 770255983), .sc (.int .u32 1249150122), .sc (.int .u32 1555081692), .sc (.int .u32 1996064986), .sc (.int .u32 2554220882), .sc (.int .u32 2821834349), .sc (.int .u32 2952996808), .sc (.int .u32 3210313671), .sc (.int .u32 3336571891), .sc (.int .u32 3584528711), .sc (.int .u32 113926993), .sc (.int .u32 338241895), .sc (.int .u32 666307205), .sc (.int .u32 773529912), .sc (.int .u32 1294757372), .sc (.int .u32 1396182291), .sc (.int .u32 1695183700), .sc (.int .u32 1986661051), .sc (.int .u32 2177026350), .sc (.int .u32 2456956037), .sc (.int .u32 2730485921), .sc (.int .u32 2820302411), .sc (.int .u32 3259730800), .sc (.int .u32 3345764771), .sc (.int .u32 3516065817), .sc (.int .u32 3600352804), .sc (.int .u32 4094571909), .sc (.int .u32 275423344), .sc (.int .u32 430227734), .sc (.int .u32 506948616), .sc (.int .u32 659060556), .sc (.int .u32 883997877), .sc (.int .u32 958139571), .sc (.int .u32 1322822218), .sc (.int .u32 1537002063), .sc (.int .u32 1747873779), .sc (.int .u32 1955562222), .sc (.int .u32 2024104815), .sc (.int .u32 2227730452), .sc (.int .u32 2361852424), .sc (.int .u32 2428436474), .sc (.int .u32 2756734187), .sc (.int .u32 3204031479), .sc (.int .u32 3329325298)]) ([.sc (.int .u32 1779033703), .sc (.int .u32 3144134277), .sc (.int .u32 1013904242), .sc (.int .u32 2773480762), .sc (.int .u32 1359893119), .sc (.int .u32 2600822924), .sc (.int .u32 528734635), .sc (.int .u32 1541459225)]) (List.take (0 + b.length) ([] ++ b) ++ [.sc (.int .u8 128)]) else none else none
theorem e28 (f : Nat) (nl : Bool) (fl : Bool) (b : List PV) (k : Res → Option Res) : evFn tau F28 Try.f28 (Try.f28.body.get!) (an28 (r28_0 f) (r28_1 f) (r28_2 f) (r28_7 f)) [] 0 [.ro 5 nl fl b] [] k = g28 f nl fl b k := by kernel_rfl
theorem it28 (f : Nat) : items (Try.f28.body.get!) (an28 (r28_0 f) (r28_1 f) (r28_2 f) (r28_7 f)) = [.l c28_0 nm28_0 N28 (r28_0 f), .l c28_1 nm28_1 N28 (r28_1 f), .l c28_2 nm28_2 N28 (r28_2 f), .l c28_7 nm28_7 N28 (r28_7 f)] := by kernel_rfl
theorem ia28 (f : Nat) : ∀ q ∈ items (Try.f28.body.get!) (an28 (r28_0 f) (r28_1 f) (r28_2 f) (r28_7 f)), q.Ok tau Try.prog 0 := by
  rw [it28 f]; simp only [List.forall_mem_cons, List.not_mem_nil, false_implies, implies_true, and_true]; exact ⟨i17_0 f, i17_1 f, i17_2 f, i17_7 f⟩
theorem fo28 : Try.prog.funcs[28]? = some Try.f28 := by kernel_rfl
theorem bo28 : Try.f28.body = some (Try.f28.body.get!) := by kernel_rfl
theorem en28 : Enters Try.prog 28 := enters_of fo28 (by kernel_rfl) bo28
end Go.Proofs.Ytcklhipdldpkhaa.Rx

-- FN ref2.Sum
namespace Go.Proofs.Ytcklhipdldpkhaa.Rx
open Go
set_option linter.unusedVariables false
set_option maxRecDepth 100000
set_option maxHeartbeats 1000000
theorem getP_nil (v : PV) : getP v [] = v := rfl
theorem getD8' {R : List Int} (h : R.length = 8) (j : Nat) (hj : j < 8) : (pu .u32 R).getD j .top = .sc (.int .u32 (R.getD j 0)) := pu_get (by omega)
theorem m28_0 (f : Nat) (a b : Bool) (c x y w : List PV) (k0 : Bool → Bool → List PV → Nat → List PV → List PV → List PV → List PV → Option Res) : ∀ (d n : Nat) (L : List Int), zs L.length = d → d < n → L.length + d ≤ 140737488355200 →
    lp28_0 f k0 n a b c L.length x y w (pu .u8 L) = k0 a b c (L.length + d) x y w (pu .u8 (L ++ List.replicate d 0))
  | 0, n + 1, L, hd, hn, hL => by
      simp only [lp28_0, lpS28_0, tmod64]
      refine (bif_f (by simp [zs] at hd ⊢; omega)).trans ?_
      simp
  | d + 1, n + 1, L, hd, hn, hL => by
      have hlt : d + 1 < 64 := by rw [← hd]; unfold zs; omega
      have c3 : roomy (L.length + 1) 1 = true := by simp [roomy]; omega
      simp only [lp28_0, lpS28_0, tmod64, c3, Bool.and_true, cond_true, pu_take]
      refine (bif_t (by simp [zs] at hd ⊢; omega)).trans ?_
      rw [List.take_of_length_le (Nat.le_refl _)]
      have := m28_0 f a b c x y w k0 d n (L ++ [0]) (by simp [zs] at hd ⊢; omega) (by omega) (by simp; omega)
      simp only [List.length_append, List.length_cons, List.length_nil, Nat.zero_add, pu_append] at this
      refine this.trans ?_
      rw [show L.length + 1 + d = L.length + (d + 1) from by omega, List.replicate_succ]
      simp
def lenR (N : Int) (i : Nat) : Int := IntKind.u8.wrap (shrI .u64 N (56 - 8 * (i : Int)))
theorem m28_1 (f : Nat) (N : Int) (x y w : List PV) (k0 : Nat → List PV → List PV → List PV → List PV → Option Res) (L : List Int) (hL : L.length ≤ 140737488355300) : ∀ (d i n : Nat), i + d = 8 → d < n →
    lp28_1 f k0 n (L.length + i) N (7 - (i : Int)) x y w (pu .u8 (L ++ (List.range i).map (lenR N))) = k0 (L.length + 8) x y w (pu .u8 (L ++ (List.range 8).map (lenR N)))
  | 0, i, n + 1, h, hn => by
      obtain rfl : i = 8 := by omega
      simp only [lp28_1, lpS28_1]
      exact bif_f (by decide)
  | d + 1, i, n + 1, h, hn => by
      have h1 : IntKind.i64.wrap (7 - (i : Int) - 1) = 7 - ((i + 1 : Nat) : Int) := by rw [wrap_i64 (by omega) (by omega)]; omega
      have h8 : IntKind.u64.wrap (7 - (i : Int)) = 7 - (i : Int) := by rw [wrap_u64_eq]; omega
      have h9 : IntKind.u64.wrap (8 * (7 - (i : Int))) = 56 - 8 * (i : Int) := by rw [wrap_u64_eq]; omega
      have c1 : decide (7 - (i : Int) ≥ 0) = true := by simp; omega
      have c2 : decide (0 ≤ 56 - 8 * (i : Int)) = true := by simp; omega
      have c3 : roomy (L.length + i + 1) 1 = true := by simp [roomy]; omega
      have hlen : (L ++ (List.range i).map (lenR N)).length = L.length + i := by simp
      simp only [lp28_1, lpS28_1, h1, h8, h9, c1, c2, c3, Bool.and_true, cond_true, pu_take]
      rw [List.take_of_length_le (by omega)]
      have := m28_1 f N x y w k0 L hL d (i + 1) n (by omega) (by omega)
      rw [List.range_succ, List.map_append, ← List.append_assoc, pu_append] at this
      exact this
theorem blk_get (P : List Int) (q j : Nat) (hj : j < 64) : ((P.drop (64 * q)).take 64).getD j 0 = P.getD (64 * q + j) 0 := by
  simp [List.getD_eq_getElem?_getD, hj, List.getElem?_drop]
theorem m28_3 (P : List Int) (q : Nat) (hq : 64 * q + 64 ≤ P.length) (hP : P.length ≤ 140737488356000) (T : List Int) (hT : T.length = 64) (f : Nat) (x y w : List PV) (k0 : Nat → Int → List PV → List PV → List PV → List PV → List PV → Option Res) : ∀ (d i n : Nat), i + d = 16 → d < n →
    lp28_3 f k0 n P.length ((64 * q : Nat) : Int) (i : Int) x y w (pu .u8 P) (pu .u32 (fillM (word ((P.drop (64 * q)).take 64)) T i)) = k0 P.length ((64 * q : Nat) : Int) x y w (pu .u8 P) (pu .u32 (fillM (word ((P.drop (64 * q)).take 64)) T 16))
  | 0, i, n + 1, h, hn => by
      obtain rfl : i = 16 := by omega
      simp only [lp28_3, lpS28_3]
      exact bif_f (by decide)
  | d + 1, i, n + 1, h, hn => by
      have h4 : IntKind.i64.wrap (4 * (i : Int)) = ((4 * i : Nat) : Int) := by rw [wrap_i64 (by omega) (by omega)]; omega
      have h40 : IntKind.i64.wrap (((64 * q : Nat) : Int) + ((4 * i : Nat) : Int)) = ((64 * q + 4 * i : Nat) : Int) := by rw [wrap_i64 (by omega) (by omega)]; omega
      have h41 : IntKind.i64.wrap (((64 * q + 4 * i : Nat) : Int) + 1) = ((64 * q + (4 * i + 1) : Nat) : Int) := by rw [wrap_i64 (by omega) (by omega)]; omega
      have h42 : IntKind.i64.wrap (((64 * q + 4 * i : Nat) : Int) + 2) = ((64 * q + (4 * i + 2) : Nat) : Int) := by rw [wrap_i64 (by omega) (by omega)]; omega
      have h43 : IntKind.i64.wrap (((64 * q + 4 * i : Nat) : Int) + 3) = ((64 * q + (4 * i + 3) : Nat) : Int) := by rw [wrap_i64 (by omega) (by omega)]; omega
      have h5 : IntKind.i64.wrap ((i : Int) + 1) = ((i + 1 : Nat) : Int) := by rw [wrap_i64 (by omega) (by omega)]; omega
      simp only [lp28_3, lpS28_3, h4, h40, h41, h42, h43, h5, Int.toNat_natCast, Nat.zero_add, getP_nil, zi]
      rw [pu_isInt (by omega), pu_isInt (by omega), pu_isInt (by omega), pu_isInt (by omega), pu_int (by omega), pu_int (by omega), pu_int (by omega), pu_int (by omega), pu_set]
      refine (bif_t (by simp; omega)).trans ?_
      refine (bif_t (by simp only [Bool.and_true, Bool.and_eq_true, decide_eq_true_eq]; omega)).trans ?_
      refine (bif_t rfl).trans ?_
      refine (bif_t (by simp only [Bool.and_true, Bool.and_eq_true, decide_eq_true_eq]; omega)).trans ?_
      refine (bif_t rfl).trans ?_
      refine (bif_t (by simp only [Bool.and_true, Bool.and_eq_true, decide_eq_true_eq]; omega)).trans ?_
      refine (bif_t rfl).trans ?_
      refine (bif_t (by simp only [Bool.and_true, Bool.and_eq_true, decide_eq_true_eq]; omega)).trans ?_
      refine (bif_t rfl).trans ?_
      refine (bif_t (by simp only [Bool.and_true, Bool.and_eq_true, decide_eq_true_eq]; omega)).trans ?_
      have := m28_3 P q hq hP T hT f x y w k0 d (i + 1) n (by omega) (by omega)
      rw [← fillM_set _ T i (by omega), word, blk_get P q _ (by omega), blk_get P q _ (by omega), blk_get P q _ (by omega), blk_get P q _ (by omega)] at this
      exact this
def fillT (bs T : List Int) (i : Nat) : List Int := sched bs i ++ T.drop (16 + i)
theorem fillT_length (bs T : List Int) (hT : T.length = 64) (i : Nat) (h : i ≤ 48) : (fillT bs T i).length = 64 := by simp [fillT, sched_length, hT]; omega
theorem fillT_get (bs T : List Int) (i j : Nat) (h : j < 16 + i) : (fillT bs T i).getD j 0 = (sched bs i).getD j 0 := by
  simp only [fillT, List.getD_eq_getElem?_getD]
  rw [List.getElem?_append_left (by rw [sched_length]; exact h)]
theorem fillT_set (bs T : List Int) (hT : T.length = 64) (i : Nat) (h : i < 48) (x : Int) : (fillT bs T i).set (i + 16) x = (sched bs i ++ [x]) ++ T.drop (16 + (i + 1)) := by
  rw [fillT, List.set_append_right _ _ (by rw [sched_length]; omega), sched_length, List.drop_eq_getElem_cons (by omega), show i + 16 - (16 + i) = 0 from by omega, List.set_cons_zero]
  simp [Nat.add_assoc]
theorem nxtW_eq (w16 w15 w7 w2 : Int) : ww (ww (ww (sg1 w2 + w7) + sg0 w15) + w16) = nxtW w16 w15 w7 w2 := by
  simp only [nxtW, ww, wrap_u32_eq]; omega
theorem m28_4 (bs T : List Int) (hT : T.length = 64) (f : Nat) (l : Nat) (p : Int) (x y w e : List PV) (k0 : Nat → Int → List PV → List PV → List PV → List PV → List PV → Option Res) : ∀ (d i n : Nat), i + d = 48 → d < n →
    lp28_4 f k0 n l p ((i + 16 : Nat) : Int) x y w e (pu .u32 (fillT bs T i)) = k0 l p x y w e (pu .u32 (spreadP bs))
  | 0, i, n + 1, h, hn => by
      obtain rfl : i = 48 := by omega
      simp only [lp28_4, lpS28_4]
      refine (bif_f (by decide)).trans ?_
      rw [fillT, List.drop_of_length_le (by omega), List.append_nil]; rfl
  | d + 1, i, n + 1, h, hn => by
      have h15 : IntKind.i64.wrap (((i + 16 : Nat) : Int) - 15) = ((i + 1 : Nat) : Int) := by rw [wrap_i64 (by omega) (by omega)]; omega
      have h2 : IntKind.i64.wrap (((i + 16 : Nat) : Int) - 2) = ((i + 14 : Nat) : Int) := by rw [wrap_i64 (by omega) (by omega)]; omega
      have h16 : IntKind.i64.wrap (((i + 16 : Nat) : Int) - 16) = ((i : Nat) : Int) := by rw [wrap_i64 (by omega) (by omega)]; omega
      have h7 : IntKind.i64.wrap (((i + 16 : Nat) : Int) - 7) = ((i + 9 : Nat) : Int) := by rw [wrap_i64 (by omega) (by omega)]; omega
      have h1 : IntKind.i64.wrap (((i + 16 : Nat) : Int) + 1) = ((i + 1 + 16 : Nat) : Int) := by rw [wrap_i64 (by omega) (by omega)]; omega
      have hl := fillT_length bs T hT i (by omega)
      simp only [lp28_4, lpS28_4, h15, h2, h16, h7, h1, Int.toNat_natCast, zi, getP_ar]
      rw [pu_isInt (by omega), pu_isInt (by omega), pu_isInt (by omega), pu_isInt (by omega), pu_int (by omega), pu_int (by omega), pu_int (by omega), pu_int (by omega), pu_set]
      refine (bif_t (by simp; omega)).trans ?_
      refine (bif_t (by simp; omega)).trans ?_
      refine (bif_t rfl).trans ?_
      refine (bif_t (by simp; omega)).trans ?_
      refine (bif_t rfl).trans ?_
      refine (bif_t (by simp; omega)).trans ?_
      refine (bif_t rfl).trans ?_
      refine (bif_t (by simp; omega)).trans ?_
      refine (bif_t rfl).trans ?_
      refine (bif_t (by simp; omega)).trans ?_
      have := m28_4 bs T hT f l p x y w e k0 d (i + 1) n (by omega) (by omega)
      rw [fillT_get bs T i i (by omega), fillT_get bs T i (i + 1) (by omega), fillT_get bs T i (i + 9) (by omega), fillT_get bs T i (i + 14) (by omega), fillT_set bs T hT i (by omega)]
      have hn := nxtW_eq ((sched bs i).getD i 0) ((sched bs i).getD (i + 1) 0) ((sched bs i).getD (i + 9) 0) ((sched bs i).getD (i + 14) 0)
      rw [fillT, sched, ← hn] at this
      exact this
theorem m28_5 (W s : List Int) (hW : W.length = 64) (hs : s.length = 8) (f : Nat) (l : Nat) (p : Int) (x w e : List PV) (k0 : Nat → Int → List PV → List PV → List PV → List PV → List PV → List PV → Option Res) : ∀ (d i n : Nat), i + d = 64 → d < n →
    lp28_5 f k0 n l p (i : Int) x (pu .u32 kks) w e (pu .u32 W) (pu .u32 (rnds W s i)) = k0 l p x (pu .u32 kks) w e (pu .u32 W) (pu .u32 (rnds W s 64))
  | 0, i, n + 1, h, hn => by
      obtain rfl : i = 64 := by omega
      simp only [lp28_5, lpS28_5]
      exact bif_f (by decide)
  | d + 1, i, n + 1, h, hn => by
      have hl := rnds_length W s hs i
      have h1 : IntKind.i64.wrap ((i : Int) + 1) = ((i + 1 : Nat) : Int) := by rw [wrap_i64 (by omega) (by omega)]; omega
      have hk : (pu .u32 kks).getD i .top = .sc (.int .u32 (kks.getD i 0)) := pu_get (by show i < 64; omega)
      have hw : (pu .u32 W).getD i .top = .sc (.int .u32 (W.getD i 0)) := pu_get (by omega)
      have c1 : decide ((i : Int) < 64) = true := by simp; omega
      have c2 : decide (0 ≤ (i : Int)) = true := by simp
      have c3 : decide ((i : Int) < zi 64) = true := by simp; omega
      simp only [lp28_5, lpS28_5, getP_ar, Int.toNat_natCast, h1, hk, hw, c1, c2, c3, getD8' hl 0 (by omega), getD8' hl 1 (by omega), getD8' hl 2 (by omega), getD8' hl 3 (by omega), getD8' hl 4 (by omega), getD8' hl 5 (by omega), getD8' hl 6 (by omega), getD8' hl 7 (by omega), PV.isInt, PV.int, decide_true, Bool.and_true, cond_true]
      exact m28_5 W s hW hs f l p x w e k0 d (i + 1) n (by omega) (by omega)
theorem m28_6 (t s : List Int) (ht : t.length = 8) (hs : s.length = 8) (f : Nat) (l : Nat) (p : Int) (x y e u : List PV) (k0 : Nat → Int → List PV → List PV → List PV → List PV → List PV → Option Res) : ∀ (d i n : Nat), i + d = 8 → d < n →
    lp28_6 f k0 n l p (i : Int) x y (pu .u32 (fillM (fun j => ww (t.getD j 0 + s.getD j 0)) s i)) e u (pu .u32 t) = k0 l p x y (pu .u32 ((List.range 8).map fun j => ww (t.getD j 0 + s.getD j 0))) e u
  | 0, i, n + 1, h, hn => by
      obtain rfl : i = 8 := by omega
      simp only [lp28_6, lpS28_6]
      refine (bif_f (by decide)).trans ?_
      have := fillM_full (fun j => ww (t.getD j 0 + s.getD j 0)) s
      rw [hs] at this; rw [this]
  | d + 1, i, n + 1, h, hn => by
      have hl : (fillM (fun j => ww (t.getD j 0 + s.getD j 0)) s i).length = 8 := by rw [fillM_length _ _ _ (by omega), hs]
      have h1 : IntKind.i64.wrap ((i : Int) + 1) = ((i + 1 : Nat) : Int) := by rw [wrap_i64 (by omega) (by omega)]; omega
      have c1 : decide ((i : Int) < 8) = true := by simp; omega
      have c2 : decide (0 ≤ (i : Int)) = true := by simp
      have c3 : decide ((i : Int) < zi 8) = true := by simp; omega
      have g1 : ((i : Int)).toNat = i := by omega
      simp only [lp28_6, lpS28_6, getP_ar, g1, h1, c1, c2, c3, getD8' hl i (by omega), getD8' ht i (by omega), fillM_get _ s i (by omega), PV.isInt, PV.int, decide_true, Bool.and_true, cond_true, pu_set]
      have := m28_6 t s ht hs f l p x y e u k0 d (i + 1) n (by omega) (by omega)
      rw [← fillM_set _ s i (by omega), Int.add_comm (t.getD i 0)] at this
      exact this
theorem outB0 (s : List Int) (i : Nat) : outB s (4 * i) = IntKind.u8.wrap (shrI .u32 (s.getD i 0) 24) := by
  rw [outB, show 4 * i / 4 = i from by omega, show 4 * i % 4 = 0 from by omega]; rfl
theorem outB1 (s : List Int) (i : Nat) : outB s (4 * i + 1) = IntKind.u8.wrap (shrI .u32 (s.getD i 0) 16) := by
  rw [outB, show (4 * i + 1) / 4 = i from by omega, show (4 * i + 1) % 4 = 1 from by omega]; rfl
theorem outB2 (s : List Int) (i : Nat) : outB s (4 * i + 2) = IntKind.u8.wrap (shrI .u32 (s.getD i 0) 8) := by
  rw [outB, show (4 * i + 2) / 4 = i from by omega, show (4 * i + 2) % 4 = 2 from by omega]; rfl
theorem outB3 (s : List Int) (i : Nat) : outB s (4 * i + 3) = IntKind.u8.wrap (s.getD i 0) := by
  rw [outB, show (4 * i + 3) / 4 = i from by omega, show (4 * i + 3) % 4 = 3 from by omega]
  have : shrI .u32 (s.getD i 0) (24 - 8 * ((3 : Nat) : Int)) = s.getD i 0 := by
    have h0 : (24 - 8 * ((3 : Nat) : Int)) = 0 := by decide
    rw [h0]; simp [shrI]
  rw [this]
theorem m28_7 (s : List Int) (hs : s.length = 8) (f : Nat) (k0 : List PV → List PV → Option Res) (a : List PV) (t : List Int) (ht : t.length = 32) : ∀ (d i n : Nat), i + d = 8 → d < n →
    lp28_7 f k0 n (i : Int) a (pu .u32 s) (pu .u8 (fillM (outB s) t (4 * i))) = k0 a (pu .u8 (outP s))
  | 0, i, n + 1, h, hn => by
      obtain rfl : i = 8 := by omega
      simp only [lp28_7, lpS28_7]
      refine (bif_f (by decide)).trans ?_
      have := fillM_full (outB s) t
      rw [ht] at this; rw [show 4 * 8 = 32 from rfl, this]; rfl
  | d + 1, i, n + 1, h, hn => by
      have h1 : IntKind.i64.wrap ((i : Int) + 1) = ((i + 1 : Nat) : Int) := by rw [wrap_i64 (by omega) (by omega)]; omega
      have h4 : IntKind.i64.wrap (4 * (i : Int)) = ((4 * i : Nat) : Int) := by rw [wrap_i64 (by omega) (by omega)]; omega
      have h41 : IntKind.i64.wrap (((4 * i : Nat) : Int) + 1) = ((4 * i + 1 : Nat) : Int) := by rw [wrap_i64 (by omega) (by omega)]; omega
      have h42 : IntKind.i64.wrap (((4 * i : Nat) : Int) + 2) = ((4 * i + 2 : Nat) : Int) := by rw [wrap_i64 (by omega) (by omega)]; omega
      have h43 : IntKind.i64.wrap (((4 * i : Nat) : Int) + 3) = ((4 * i + 3 : Nat) : Int) := by rw [wrap_i64 (by omega) (by omega)]; omega
      have c1 : decide ((i : Int) < 8) = true := by simp; omega
      have c2 : decide (0 ≤ (i : Int)) = true := by simp
      have c3 : decide ((i : Int) < zi 8) = true := by simp; omega
      have b0 : (decide (0 ≤ ((4 * i : Nat) : Int)) && decide (((4 * i : Nat) : Int) < zi 32) && true) = true := by simp; omega
      have b1 : (decide (0 ≤ ((4 * i + 1 : Nat) : Int)) && decide (((4 * i + 1 : Nat) : Int) < zi 32) && true) = true := by simp; omega
      have b2 : (decide (0 ≤ ((4 * i + 2 : Nat) : Int)) && decide (((4 * i + 2 : Nat) : Int) < zi 32) && true) = true := by simp; omega
      have b3 : (decide (0 ≤ ((4 * i + 3 : Nat) : Int)) && decide (((4 * i + 3 : Nat) : Int) < zi 32) && true) = true := by simp; omega
      have g1 : ((i : Int)).toNat = i := by omega
      have g2 : (((4 * i : Nat) : Int)).toNat = 4 * i := by omega
      have g3 : (((4 * i + 1 : Nat) : Int)).toNat = 4 * i + 1 := by omega
      have g4 : (((4 * i + 2 : Nat) : Int)).toNat = 4 * i + 2 := by omega
      have g5 : (((4 * i + 3 : Nat) : Int)).toNat = 4 * i + 3 := by omega
      simp only [lp28_7, lpS28_7, h1, h4, h41, h42, h43, b0, b1, b2, b3, g1, g2, g3, g4, g5, getP_ar, c1, c2, c3, getD8' hs i (by omega), PV.isInt, PV.int, decide_true, Bool.and_true, cond_true, pu_set]
      have := m28_7 s hs f k0 a t ht d (i + 1) n (by omega) (by omega)
      rw [show 4 * (i + 1) = 4 * i + 3 + 1 from by omega, ← fillM_set (outB s) t (4 * i + 3) (by omega), ← fillM_set (outB s) t (4 * i + 2) (by omega), ← fillM_set (outB s) t (4 * i + 1) (by omega), ← fillM_set (outB s) t (4 * i) (by omega), outB0, outB1, outB2, outB3] at this
      exact this
theorem m28_2 (P : List Int) (m : Nat) (hP : P.length = 64 * m) (hb : P.length ≤ 140737488356000) (f : Nat) (hf : 100 ≤ f) (x : List PV) (k0 : List PV → List PV → Option Res) : ∀ (d i n : Nat) (T : List Int), i + d = m → d < n → T.length = 64 →
    lp28_2 f k0 n P.length ((64 * i : Nat) : Int) x (pu .u32 kks) (pu .u32 (foldB iv P i)) (pu .u8 P) (pu .u32 T) = k0 x (pu .u32 (foldB iv P m))
  | 0, i, n + 1, T, h, hn, hT => by
      obtain rfl : i = m := by omega
      simp only [lp28_2, lpS28_2]
      exact bif_f (by simp [zi]; omega)
  | d + 1, i, n + 1, T, h, hn, hT => by
      have hfl := foldB_length iv P rfl i
      simp only [lp28_2, lpS28_2]
      refine (bif_t (by simp [zi]; omega)).trans ?_
      have e3 := fun kk => m28_3 P i (by omega) hb T hT f x (pu .u32 kks) (pu .u32 (foldB iv P i)) kk 16 0 f (by omega) (by omega)
      have e4 := fun kk => m28_4 ((P.drop (64 * i)).take 64) T hT f P.length ((64 * i : Nat) : Int) x (pu .u32 kks) (pu .u32 (foldB iv P i)) (pu .u8 P) kk 48 0 f (by omega) (by omega)
      have hW : (spreadP ((P.drop (64 * i)).take 64)).length = 64 := sched_length _ 48
      have e5 := fun kk => m28_5 (spreadP ((P.drop (64 * i)).take 64)) (foldB iv P i) hW hfl f P.length ((64 * i : Nat) : Int) x (pu .u32 (foldB iv P i)) (pu .u8 P) kk 64 0 f (by omega) (by omega)
      have e6 := fun kk => m28_6 (rnds (spreadP ((P.drop (64 * i)).take 64)) (foldB iv P i) 64) (foldB iv P i) (rnds_length _ _ hfl 64) hfl f P.length ((64 * i : Nat) : Int) x (pu .u32 kks) (pu .u8 P) (pu .u32 (spreadP ((P.drop (64 * i)).take 64))) kk 8 0 f (by omega) (by omega)
      have h0 : fillM (word ((P.drop (64 * i)).take 64)) T 16 = fillT ((P.drop (64 * i)).take 64) T 0 := rfl
      rw [fillM_zero] at e6
      simp only [fillM_zero] at e3
      refine (e3 _).trans ?_
      rw [h0]
      refine (e4 _).trans ?_
      refine (e5 _).trans ?_
      refine (e6 _).trans ?_
      have h1 : IntKind.i64.wrap (((64 * i : Nat) : Int) + 64) = ((64 * (i + 1) : Nat) : Int) := by rw [wrap_i64 (by omega) (by omega)]; omega
      rw [h1]
      exact m28_2 P m hP hb f hf x k0 d (i + 1) n (spreadP ((P.drop (64 * i)).take 64)) (by omega) (by omega) hW
theorem g28_eq (bs : List Int) (hb : bs.length ≤ 140737488355000) (nl fl : Bool) (k : Res → Option Res) : g28 ((padP bs).length / 64 + 100) nl fl (pu .u8 bs) k = k ⟨.ar 37 (pu .u8 (sumP bs)), [], []⟩ := by
  rw [sumP_eq]
  have hlen : (padP bs).length = bs.length + 1 + zs (bs.length + 1) + 8 := by simp [padP, lenB]; omega
  have hz : zs (bs.length + 1) < 64 := by unfold zs; omega
  have h64 : (padP bs).length = 64 * ((padP bs).length / 64) := padP_length bs
  generalize hf : (padP bs).length / 64 + 100 = f
  refine (bif_t (by simp [roomy]; omega)).trans ?_
  refine (bif_t (by simp [roomy]; omega)).trans ?_
  have hL : List.take (0 + (pu .u8 bs).length) ([] ++ pu .u8 bs) ++ [PV.sc (Value.int IntKind.u8 128)] = pu .u8 (bs ++ [128]) := by
    rw [List.take_of_length_le (by simp)]; simp
  rw [hL]
  have e0 := fun kk x y w => m28_0 f nl fl (pu .u8 bs) x y w kk (zs (bs.length + 1)) f (bs ++ [128]) (by simp) (by omega) (by simp; omega)
  simp only [List.length_append, List.length_cons, List.length_nil, Nat.zero_add] at e0
  have hl1 : 0 + (pu .u8 bs).length + 1 = bs.length + 1 := by simp
  rw [hl1]
  refine (e0 _ _ _ _).trans ?_
  have e1 := fun kk x y w => m28_1 f (IntKind.u64.wrap (IntKind.u64.wrap (zi (pu .u8 bs).length) * 8)) x y w kk (bs ++ [128] ++ List.replicate (zs (bs.length + 1)) 0) (by simp; omega) 8 0 f (by omega) (by omega)
  have hl2 : (bs ++ [128] ++ List.replicate (zs (bs.length + 1)) 0).length = bs.length + 1 + zs (bs.length + 1) := by simp; omega
  rw [hl2] at e1
  simp only [List.range_zero, List.map_nil, List.append_nil, Nat.add_zero] at e1
  refine (e1 _ _ _ _).trans ?_
  have hPd : bs ++ [128] ++ List.replicate (zs (bs.length + 1)) 0 ++ (List.range 8).map (lenR (IntKind.u64.wrap (IntKind.u64.wrap (zi (pu .u8 bs).length) * 8))) = padP bs := by
    rw [pu_length]; rfl
  rw [hPd, ← hlen]
  have e2 := fun kk x => m28_2 (padP bs) ((padP bs).length / 64) h64 (by omega) f (by omega) x kk ((padP bs).length / 64) 0 f (List.replicate 64 0) (by omega) (by omega) (by simp)
  refine (e2 _ _).trans ?_
  have hfl := foldB_length iv (padP bs) rfl ((padP bs).length / 64)
  have e7 := fun kk a => m28_7 (foldB iv (padP bs) ((padP bs).length / 64)) hfl f kk a (List.replicate 32 0) (by simp) 8 0 f (by omega) (by omega)
  simp only [Nat.mul_zero, fillM_zero] at e7
  exact e7 _ _
def run28' : List PV → List Ent → (Res → Option Res) → Option Res
  | [.ro 5 nl fl b], [], k => bif allInt .u8 b && decide (b.length ≤ 140737488355000) then k ⟨.ar 37 (pu .u8 (sumP (ints b))), [], []⟩ else none
  | _, _, _ => none
def s28' : Sig := { own := [], run := run28' }
theorem ok28' : CallOk tau Try.prog 28 s28' := fn_ok2 tabOk F28_ok mixed fo28 bo28 (fun n => an28 (r28_0 n) (r28_1 n) (r28_2 n) (r28_7 n)) [] 0 [] run28' (fun n => ia28 n) fun xs es k res hr => by
  unfold run28' at hr
  split at hr
  · rename_i nl fl l
    obtain ⟨hc, hr⟩ := of_bif hr
    simp only [Bool.and_eq_true, decide_eq_true_eq] at hc
    refine ⟨rfl, (padP (ints l)).length / 64 + 100, 0, (e28 _ _ _ _ _).trans ?_⟩
    have he := pu_ints hc.1
    have := g28_eq (ints l) (by simpa using hc.2) nl fl k
    rw [← he] at this
    rw [this]; exact hr
  · cases hr
end Go.Proofs.Ytcklhipdldpkhaa.Rx
