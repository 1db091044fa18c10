/- What the functions of this law compute, and their plain laws. Conditions: none. -/
import Derived.Test.YtodldmomneecpaaHmacKeepsP3
/- What comitia/comitialaw3.HmacSigns computes. Own work, printed by a program of the worker's own. -/
namespace Go.Proofs.Ytodldmomneecpaa.Rx
open Go
set_option linter.unusedVariables false
set_option maxRecDepth 100000
set_option maxHeartbeats 0
def N3 : Nat := 49
noncomputable def F3 : Fns := addF 16 s16' (addF 15 s15' (addF 14 s14' (addF 13 s13 (F0))))
theorem F3_ok : FnsOk tau Try.prog F3 := ((((F0_ok).add ok13 en13).add ok14' en14).add ok15' en15).add ok16' en16
noncomputable def c3_0 : Code := subC (Try.f3.body.get!) [1, 1, 1, 0, 1, 0, 0]
def nm3_0 : Nm := [(0, .any), (1, .any), (5, .any)]
def nx3_0 : Nm := [(0, .any), (1, .any), (4, .any)]
def x3_0 : An := (.seq (.seq .leaf (.cond .leaf .leaf)) (.seq (.block none (.seq .leaf (.cond (.seq .leaf .leaf) .leaf))) .leaf))
def an3 (r0 : RunL) : An := (.seq .leaf (.seq (.seq .leaf (.cond (.seq .leaf .leaf) .leaf)) (.seq (.seq .leaf (.cond (.seq .leaf .leaf) .leaf)) (.seq (.seq .leaf (.block none (.sum nm3_0 N3 r0))) (.seq .leaf (.seq .leaf .leaf))))))
noncomputable def lpS3_0 (f : Nat) (rc : Bool → Bool → List
  PV → Bool → Bool → List
  PV → Int → Option Res) (k0 : Bool → Bool → List
  PV → Bool → Bool → List
  PV → Bool → Option Res) (k1 : Bool → Bool → List PV → Bool → Bool → List PV → Option Res) (v0 : Bool) (v1 : Bool) (v2 : List PV) (v3 : Bool) (v4 : Bool) (v5 : List PV) (v6 : Int) : Option Res :=
  bif decide (v6 < zi v5.length) then
    bif decide (0 ≤ v6) && decide (v6 < zi v5.length) && PV.isRo 5 (v5.getD v6.toNat PV.top) && true then
      bif decide (zi (v5.getD v6.toNat PV.top).els.length > 200) then
        k0 v0 v1 v2 v3 v4 v5 true
      else rc v0 v1 v2 v3 v4 v5 (IntKind.i64.wrap (v6 + 1))
    else none
  else k1 v0 v1 v2 v3 v4 v5
noncomputable def lp3_0 (f : Nat) (k0 : Bool → Bool → List
  PV → Bool → Bool → List PV → Bool → Option Res) (k1 : Bool → Bool → List PV → Bool → Bool → List PV → Option Res) : Nat → Bool → Bool → List PV → Bool → Bool → List PV → Int → Option Res
  | 0, _, _, _, _, _, _, _ => none
  | n + 1, v0, v1, v2, v3, v4, v5, v6 => lpS3_0 f (lp3_0 f k0 k1 n) k0 k1 v0 v1 v2 v3 v4 v5 v6
theorem lpR3_0 (f : Nat) (k : Kont) (n : Nat) (v0 : Bool) (v1 : Bool) (v2 : List
  PV) (v3 : Bool) (v4 : Bool) (v5 : List
  PV) (v6 : Int) : evLoop tau 0 nm3_0 (fun s k => ev tau F3 0 0 c3_0 (x3_0 ) s k) (n + 1) (fillS nm3_0 N3 [PV.ro 5 v0 v1 v2, PV.ro 22 v3 v4 v5,
  PV.sc
    (Value.int IntKind.i64
      v6)] []) (kNorm tau 0 nx3_0 k) = lpS3_0 f (fun v0 v1 v2 v3 v4 v5 v6 => evLoop tau 0 nm3_0 (fun s k => ev tau F3 0 0 c3_0 (x3_0 ) s k) n (fillS nm3_0 N3 [PV.ro 5 v0 v1 v2, PV.ro 22 v3 v4 v5,
  PV.sc
    (Value.int IntKind.i64
      v6)] []) (kNorm tau 0 nx3_0 k)) (fun x0 x1 x2 x3 x4 x5 x6 => k Ex.ret (fillS nx3_0 N3 [PV.ro 5 x0 x1 x2, PV.ro 22 x3 x4 x5,
  PV.sc (Value.bool x6)] [])) (fun x0 x1 x2 x3 x4 x5 => k (Ex.exit 0) (fillS nx3_0 N3 [PV.ro 5 x0 x1 x2, PV.ro 22 x3 x4 x5, PV.top] [])) v0 v1 v2 v3 v4 v5 v6 := by kernel_rfl
theorem lpE3_0 (f : Nat) (k : Kont) : ∀ (n : Nat) (v0 : Bool) (v1 : Bool) (v2 : List
  PV) (v3 : Bool) (v4 : Bool) (v5 : List
  PV) (v6 : Int), evLoop tau 0 nm3_0 (fun s k => ev tau F3 0 0 c3_0 (x3_0 ) s k) n (fillS nm3_0 N3 [PV.ro 5 v0 v1 v2, PV.ro 22 v3 v4 v5,
  PV.sc
    (Value.int IntKind.i64
      v6)] []) (kNorm tau 0 nx3_0 k) = lp3_0 f (fun x0 x1 x2 x3 x4 x5 x6 => k Ex.ret (fillS nx3_0 N3 [PV.ro 5 x0 x1 x2, PV.ro 22 x3 x4 x5,
  PV.sc (Value.bool x6)] [])) (fun x0 x1 x2 x3 x4 x5 => k (Ex.exit 0) (fillS nx3_0 N3 [PV.ro 5 x0 x1 x2, PV.ro 22 x3 x4 x5, PV.top] [])) n v0 v1 v2 v3 v4 v5 v6
  | 0, _, _, _, _, _, _, _ => rfl
  | n + 1, v0, v1, v2, v3, v4, v5, v6 => (lpR3_0 f k n v0 v1 v2 v3 v4 v5 v6).trans (congrArg (fun r => lpS3_0 f r (fun x0 x1 x2 x3 x4 x5 x6 => k Ex.ret (fillS nx3_0 N3 [PV.ro 5 x0 x1 x2,
  PV.ro 22 x3 x4 x5,
  PV.sc
    (Value.bool
      x6)] [])) (fun x0 x1 x2 x3 x4 x5 => k (Ex.exit
  0) (fillS nx3_0 N3 [PV.ro 5 x0 x1 x2, PV.ro 22 x3 x4 x5, PV.top] [])) v0 v1 v2 v3 v4 v5 v6) (by funext v0 v1 v2 v3 v4 v5 v6; exact lpE3_0 f k n v0 v1 v2 v3 v4 v5 v6))
noncomputable def r3_0 (f : Nat) : List PV → List (Nat × Ent) → Kont → Option Res
  | [PV.ro 5 v0 v1 v2, PV.ro 22 v3 v4 v5,
  PV.sc
    (Value.int IntKind.i64
      v6)], [], k => lp3_0 f (fun x0 x1 x2 x3 x4 x5 x6 => k Ex.ret (fillS nx3_0 N3 [PV.ro 5 x0 x1 x2, PV.ro 22 x3 x4 x5,
  PV.sc (Value.bool x6)] [])) (fun x0 x1 x2 x3 x4 x5 => k (Ex.exit 0) (fillS nx3_0 N3 [PV.ro 5 x0 x1 x2, PV.ro 22 x3 x4 x5, PV.top] [])) f v0 v1 v2 v3 v4 v5 v6
  | _, _, _ => none
theorem it3_0 (f : Nat) : items c3_0 x3_0 = [] := by kernel_rfl
theorem i3_0 (f : Nat) : (Item.l c3_0 nm3_0 N3 (r3_0 f)).Ok tau Try.prog 0 := loop_item tabOk F3_ok mixed (x := x3_0) (nm2 := nx3_0) (anOk_items _ _ (by rw [it3_0 f]; intro q hq; cases hq)) fun vs hp k res hr => by
  unfold r3_0 at hr
  split at hr
  · exact ⟨f, 0, (lpE3_0 f _ f _ _ _ _ _ _ _ ).trans hr⟩
  · cases hr
noncomputable def g3 (f : Nat) (key_z : Bool) (key_f : Bool) (key : List PV) (l_z : Bool) (l_f : Bool) (l : List PV) (k : Res → Option Res) : Option Res :=
  bif decide (zi key.length > 200) then
    k (Res.mk (PV.sc (Value.bool true)) [] [])
  else bif decide (zi l.length > 6) then
    k (Res.mk (PV.sc (Value.bool true)) [] [])
  else lp3_0 f (fun x0_0 x1_0 x2_0 x3_0 x4_0 x5_0 x6_0 =>
    k (Res.mk (PV.sc (Value.bool x6_0)) [] [])) (fun x0_1 x1_1 x2_1 x3_1 x4_1 x5_1 =>
    bif roomy (0 + x2_1.length) 1 && true then
      bif allInt IntKind.u8 (List.take (0 + x2_1.length) ([] ++ x2_1)) && decide ((List.take (0 + x2_1.length) ([] ++ x2_1)).length ≤ 1000000000) &&
          (x5_1.all (PV.isRo 5) && decide (x5_1.length ≤ 1000000) && (allInt IntKind.u8 (flat x5_1) && decide ((flat x5_1).length ≤ 1000000000))) &&
        (!x3_1 || x5_1.isEmpty) then
        bif x5_1.all (PV.isRo 5) && decide (x5_1.length ≤ 1000) && decide ((flat x5_1).length ≤ 1000000) then
          bif allInt IntKind.u8 x2_1 && decide (x2_1.length ≤ 1000000000) && (allInt IntKind.u8 (flat x5_1) && decide ((flat x5_1).length ≤ 1000000000)) then
            bif decide ((pu IntKind.u8 (macP (ints (List.take (0 + x2_1.length) (List.drop 0 ([] ++ x2_1)))) (ints (flat x5_1)))).length = 32) &&
                    decide ((pu IntKind.u8 (macP (ints x2_1) (ints (flat x5_1)))).length = 32) &&
                  allInt IntKind.u8 (pu IntKind.u8 (macP (ints (List.take (0 + x2_1.length) (List.drop 0 ([] ++ x2_1)))) (ints (flat x5_1)))) &&
                allInt IntKind.u8 (pu IntKind.u8 (macP (ints x2_1) (ints (flat x5_1)))) &&
              true then
              bif eqInts (pu IntKind.u8 (macP (ints (List.take (0 + x2_1.length) (List.drop 0 ([] ++ x2_1)))) (ints (flat x5_1)))) (pu IntKind.u8 (macP (ints x2_1) (ints (flat x5_1)))) then
                bif x5_1.all (PV.isRo 5) && decide (x5_1.length ≤ 1000) && decide ((flat x5_1).length ≤ 1000000) then
                  bif allInt IntKind.u8 x2_1 && decide (x2_1.length ≤ 1000000000) &&
                      (allInt IntKind.u8 (flat [PV.ro 5 (flat x5_1).isEmpty false (flat x5_1)]) && decide ((flat [PV.ro 5 (flat x5_1).isEmpty false (flat x5_1)]).length ≤ 1000000000)) &&
                    true then
                    bif decide ((pu IntKind.u8 (macP (ints (List.take (0 + x2_1.length) (List.drop 0 ([] ++ x2_1)))) (ints (flat x5_1)))).length = 32) &&
                            decide ((pu IntKind.u8 (macP (ints x2_1) (ints (flat (List.take 1 (List.drop 0 [PV.ro 5 (flat x5_1).isEmpty false (flat x5_1)])))))).length = 32) &&
                          allInt IntKind.u8 (pu IntKind.u8 (macP (ints (List.take (0 + x2_1.length) (List.drop 0 ([] ++ x2_1)))) (ints (flat x5_1)))) &&
                        allInt IntKind.u8 (pu IntKind.u8 (macP (ints x2_1) (ints (flat (List.take 1 (List.drop 0 [PV.ro 5 (flat x5_1).isEmpty false (flat x5_1)])))))) &&
                      true then
                      k (Res.mk
                        (PV.sc
                          (Value.bool
                            (eqInts (pu IntKind.u8 (macP (ints (List.take (0 + x2_1.length) (List.drop 0 ([] ++ x2_1)))) (ints (flat x5_1))))
                              (pu IntKind.u8 (macP (ints x2_1) (ints (flat (List.take 1 (List.drop 0 [PV.ro 5 (flat x5_1).isEmpty false (flat x5_1)])))))))))
                        [] [])
                    else none
                  else none
                else none
              else k (Res.mk (PV.sc (Value.bool false)) [] [])
            else none
          else none
        else none
      else none
    else none) f key_z key_f key l_z l_f l (0)
theorem e3 (f : Nat) (key_z : Bool) (key_f : Bool) (key : List PV) (l_z : Bool) (l_f : Bool) (l : List PV) (k : Res → Option Res) : evFn tau F3 Try.f3 (Try.f3.body.get!) (an3 (r3_0 f)) [.ro] 0 [.ro 5 key_z key_f key, .ro 22 l_z l_f l] [] k = g3 f key_z key_f key l_z l_f l k := by kernel_rfl
theorem it3 (f : Nat) : items (Try.f3.body.get!) (an3 (r3_0 f)) = [.l c3_0 nm3_0 N3 (r3_0 f)] := by kernel_rfl
theorem ia3 (f : Nat) : ∀ q ∈ items (Try.f3.body.get!) (an3 (r3_0 f)), q.Ok tau Try.prog 0 := by
  rw [it3 f]; simp only [List.forall_mem_cons, List.not_mem_nil, false_implies, implies_true, and_true]; exact i3_0 f
theorem fo3 : Try.prog.funcs[3]? = some Try.f3 := by kernel_rfl
theorem bo3 : Try.f3.body = some (Try.f3.body.get!) := by kernel_rfl
theorem en3 : Enters Try.prog 3 := enters_of fo3 (by kernel_rfl) bo3
end Go.Proofs.Ytodldmomneecpaa.Rx

-- FN law3.HmacSigns
/- HmacSigns: any key, any parts, make the document's sign, however they are cut. Own work. -/
namespace Go.Proofs.Ytodldmomneecpaa.Rx
open Go
set_option linter.unusedVariables false
set_option linter.unusedSimpArgs false
set_option maxRecDepth 100000
set_option maxHeartbeats 1000000
theorem flat_len_le (m : Nat) : ∀ (l : List PV), (∀ p ∈ l, p.els.length ≤ m) → (flat l).length ≤ l.length * m
  | [], h => by simp
  | p :: ps, h => by
      rw [flat_cons, List.length_append, List.length_cons, Nat.add_mul]
      have h1 := h p List.mem_cons_self
      have h2 := flat_len_le m ps fun q hq => h q (List.mem_cons_of_mem _ hq)
      omega
theorem l3_0 (l : List PV) (h1 : l.all (PV.isRo 5) = true) (h2 : l.length ≤ 6) (f : Nat) (k0 : Bool → Bool → List PV → Bool → Bool → List PV → Bool → Option Res) (k1 : Bool → Bool → List PV → Bool → Bool → List PV → Option Res) (a b c d : Bool) (key : List PV) (R : Option Res)
    (hk0 : k0 a b key c d l true = R) (hk1 : (∀ p ∈ l, p.els.length ≤ 200) → k1 a b key c d l = R) : ∀ (dd i n : Nat), i + dd = l.length → dd < n → (∀ p ∈ l.take i, p.els.length ≤ 200) → lp3_0 f k0 k1 n a b key c d l (i : Int) = R
  | 0, i, n + 1, h, hn, hp => by
      obtain rfl : i = l.length := by omega
      rw [List.take_length] at hp
      simp only [lp3_0, lpS3_0]
      exact (bif_f (by simp [zi])).trans (hk1 hp)
  | dd + 1, i, n + 1, h, hn, hp => by
      have g1 : ((i : Int)).toNat = i := by omega
      have w1 : IntKind.i64.wrap ((i : Int) + 1) = ((i + 1 : Nat) : Int) := by rw [wrap_i64 (by omega) (by omega)]; omega
      simp only [lp3_0, lpS3_0, g1, w1]
      refine (bif_t (by simp [zi]; omega)).trans ((bif_t (by rw [isRo_getD h1 (by omega)]; simp [zi]; omega)).trans ?_)
      by_cases hc : (l.getD i .top).els.length > 200
      · exact (bif_t (by simp only [zi, decide_eq_true_eq]; omega)).trans hk0
      · refine (bif_f (by simp only [zi, decide_eq_false_iff_not]; omega)).trans ?_
        refine l3_0 l h1 h2 f k0 k1 a b c d key R hk0 hk1 dd (i + 1) n (by omega) (by omega) fun p hp2 => ?_
        rw [List.take_add_one] at hp2
        rcases List.mem_append.1 hp2 with hp2 | hp2
        · exact hp p hp2
        · rw [List.getElem?_eq_getElem (by omega)] at hp2
          simp only [Option.toList_some, List.mem_singleton] at hp2
          rw [hp2]
          rw [List.getD_eq_getElem?_getD, List.getElem?_eq_getElem (by omega)] at hc
          simpa using hc
theorem g3_eq (kz kf : Bool) (key : List PV) (lz lf : Bool) (l : List PV) (a1 : allInt .u8 key = true) (h1 : l.all (PV.isRo 5) = true) (h3 : allInt .u8 (flat l) = true) (hz : lz = true → l = []) (k : Res → Option Res) :
    g3 20 kz kf key lz lf l k = k ⟨.sc (.bool true), [], []⟩ := by
  unfold g3
  by_cases c1 : key.length > 200
  · exact bif_t (by simp [zi]; omega)
  refine (bif_f (by simp [zi]; omega)).trans ?_
  by_cases c2 : l.length > 6
  · exact bif_t (by simp [zi]; omega)
  refine (bif_f (by simp [zi]; omega)).trans ?_
  refine l3_0 l h1 (by omega) 20 _ _ kz kf lz lf key _ rfl (fun hp => ?_) l.length 0 20 (by omega) (by omega) (by simp)
  have hl := flat_len_le 200 l hp
  have hl2 : (flat l).length ≤ 1200 := by have := Nat.mul_le_mul_right 200 (show l.length ≤ 6 by omega); omega
  have hzb : (!lz || l.isEmpty) = true := by
    cases lz with
    | true => rw [hz rfl]; rfl
    | false => rfl
  have hf : ∀ b : Bool, flat [.ro 5 b false (flat l)] = flat l := fun b => by simp [PV.els]
  simp only [Nat.zero_add, List.nil_append, List.take_length, List.drop_zero, List.take_succ_cons, List.take_zero, hf, allInt_pu, eqInts_pu, macP_length, pu_length, a1, h1, h3, hzb, Bool.true_and, Bool.and_true, beq_self_eq_true, decide_true, cond_true]
  have d0 : roomy key.length 1 = true := by simp [roomy]; omega
  have d1 : decide (key.length ≤ 1000000000) = true := by simp; omega
  have d2 : decide (l.length ≤ 1000000) = true := by simp; omega
  have d3 : decide ((flat l).length ≤ 1000000000) = true := by simp; omega
  have d4 : decide (l.length ≤ 1000) = true := by simp; omega
  have d5 : decide ((flat l).length ≤ 1000000) = true := by simp; omega
  simp only [d0, d1, d2, d3, d4, d5, Bool.true_and, Bool.and_true, cond_true]
noncomputable def run3' : List PV → List Ent → (Res → Option Res) → Option Res
  | [.ro 5 kz kf key, .ro 22 lz lf l], [], k => bif allInt .u8 key && l.all (PV.isRo 5) && allInt .u8 (flat l) && (!lz || l.isEmpty) then k ⟨.sc (.bool true), [], []⟩ else none
  | _, _, _ => none
noncomputable def s3' : Sig := { own := [], run := run3' }
theorem ok3' : CallOk tau Try.prog 3 s3' := CallOk.mk' fun xs es k res hl hr => by
  change run3' xs es k = some res at hr
  unfold run3' at hr
  split at hr
  · rename_i kz kf key lz lf l
    obtain ⟨hc, hr⟩ := of_bif hr
    simp only [Bool.and_eq_true, Bool.or_eq_true, Bool.not_eq_true', List.isEmpty_iff] at hc
    exact fn_at tabOk F3_ok mixed fo3 bo3 (an3 (r3_0 20)) [.ro] 0 0 (ia3 20) hl rfl ((e3 20 kz kf key lz lf l k).trans ((g3_eq kz kf key lz lf l hc.1.1.1 hc.1.1.2 hc.1.2 (fun hp => hc.2.resolve_left (by rw [hp]; decide)) k).trans hr))
  · cases hr
/-- rows of bytes, by their type -/
theorem ty_rows {n : Nat} (l : List PV) (h : ∀ q ∈ l, Ty tau (n + 2) 22 q) : l.all (PV.isRo 5) = true ∧ allInt .u8 (flat l) = true := by
  have u1 : tau.und 22 = some (.slice 5) := by kernel_rfl
  have u2 : tau.und 5 = some (.int .u8) := by kernel_rfl
  induction l with
  | nil => exact ⟨rfl, rfl⟩
  | cons p ps ih =>
    obtain ⟨i1, i2⟩ := ih fun q hq => h q (List.mem_cons_of_mem _ hq)
    obtain ⟨nl, els, rfl, _, _, t⟩ := ty_slice u1 (h p List.mem_cons_self)
    refine ⟨by simp [PV.isRo, i1], ?_⟩
    rw [flat_cons, allInt_append, i2]
    simp only [PV.els, Bool.and_true]
    exact ty_ints u2 els t
theorem tyL2 {τ : Tab} {m : Nat} {a b : TypeId} {pvs : List PV} (h : TyL τ m [a, b] pvs) : ∃ p q, pvs = [p, q] ∧ Ty τ m a p ∧ Ty τ m b q := by
  match pvs, h with
  | [p, q], h => exact ⟨p, q, rfl, h.1, h.2.1⟩
theorem tyL3 {τ : Tab} {m : Nat} {a b c : TypeId} {pvs : List PV} (h : TyL τ m [a, b, c] pvs) : ∃ p q r, pvs = [p, q, r] ∧ Ty τ m a p ∧ Ty τ m b q ∧ Ty τ m c r := by
  match pvs, h with
  | [p, q, r], h => exact ⟨p, q, r, rfl, h.1, h.2.1, h.2.2.1⟩
theorem tyL4 {τ : Tab} {m : Nat} {a b c d : TypeId} {pvs : List PV} (h : TyL τ m [a, b, c, d] pvs) : ∃ p q r s, pvs = [p, q, r, s] ∧ Ty τ m a p ∧ Ty τ m b q ∧ Ty τ m c r ∧ Ty τ m d s := by
  match pvs, h with
  | [p, q, r, s], h => exact ⟨p, q, r, s, rfl, h.1, h.2.1, h.2.2.1, h.2.2.2.1⟩
theorem run3_true : ∀ pvs, TyL tau 4 [22, 23] pvs → s3'.run pvs [] some = some ⟨.sc (.bool true), [], []⟩ := by
  intro pvs h
  obtain ⟨p, q, rfl, h1, h2⟩ := tyL2 h
  have u1 : tau.und 22 = some (.slice 5) := by kernel_rfl
  have u3 : tau.und 23 = some (.slice 22) := by kernel_rfl
  have u2 : tau.und 5 = some (.int .u8) := by kernel_rfl
  obtain ⟨nl, els, rfl, _, _, t1⟩ := ty_slice u1 h1
  obtain ⟨nl2, els2, rfl, z2, _, t2⟩ := ty_slice u3 h2
  obtain ⟨r1, r2⟩ := ty_rows els2 t2
  refine bif_t ?_
  rw [ty_ints u2 els t1, r1, r2]
  cases nl2 with
  | true => rw [z2 rfl]; rfl
  | false => rfl
end Go.Proofs.Ytodldmomneecpaa.Rx

-- FN law3.HmacKeeps
/- HmacKeeps: key and parts stay as they were. Own work. -/
namespace Go.Proofs.Ytodldmomneecpaa.Rx
open Go
set_option linter.unusedVariables false
set_option linter.unusedSimpArgs false
set_option maxRecDepth 100000
set_option maxHeartbeats 1000000
theorem l7_0 (K : List Int) (f : Nat) (k0 : Bool → Bool → List PV → Bool → Bool → List PV → Bool → Nat → Nat → List PV → List PV → Option Res) (k1 : Bool → Bool → List PV → Bool → Bool → List PV → Nat → Nat → List PV → List PV → Option Res) (a b c d : Bool) (x y z : List PV) (p q : Nat) : ∀ (dd i n : Nat), i + dd = 200 → dd < n → K.length ≤ i →
    lp7_0 f k0 k1 n a b x c d y p q (i : Int) (pu .u8 (K ++ List.replicate (200 - K.length) 0)) z = k1 a b x c d y p q (pu .u8 (K ++ List.replicate (200 - K.length) 0)) z
  | 0, i, n + 1, hh, hn, hk => by
      obtain rfl : i = 200 := by omega
      simp only [lp7_0, lpS7_0]
      exact bif_f (by decide)
  | dd + 1, i, n + 1, hh, hn, hk => by
      have g1 : ((i : Int)).toNat = i := by omega
      have h1 : IntKind.i64.wrap ((i : Int) + 1) = ((i + 1 : Nat) : Int) := by rw [wrap_i64 (by omega) (by omega)]; omega
      have hL : i < (K ++ List.replicate (200 - K.length) 0).length := by simp; omega
      have hg : (K ++ List.replicate (200 - K.length) 0).getD i 0 = 0 := by
        rw [List.getD_eq_getElem?_getD, List.getElem?_append_right hk, List.getElem?_replicate]; split <;> rfl
      simp only [lp7_0, lpS7_0, g1, h1, Nat.zero_add, getP]
      rw [pu_isInt hL, pu_int hL, hg]
      refine (bif_t (by simp [zi]; omega)).trans ?_
      by_cases c : (i : Int) < 150
      · refine (bif_t (by simpa using c)).trans ((bif_t (by simp [zi]; omega)).trans ((bif_t rfl).trans ((bif_f rfl).trans ?_)))
        exact l7_0 K f k0 k1 a b _ d x y z p q dd (i + 1) n (by omega) (by omega) (by omega)
      · exact bif_f (by simpa using c)
theorem z200 : ([PV.sc (Value.int IntKind.u8 0)] : List PV) = pu .u8 [0] := rfl
theorem g7_form (f : Nat) (kz kf : Bool) (key : List PV) (bz bf : Bool) (b : List PV) (k : Res → Option Res) : g7 f kz kf key bz bf b k =
    (bif decide (zi key.length > 100) then k ⟨.sc (.bool true), [], []⟩
    else bif decide (zi b.length > 100) then k ⟨.sc (.bool true), [], []⟩
    else bif decide (0 + key.length ≤ 200) && true then
      bif decide (0 + b.length ≤ 200) && true then
        bif allInt .u8 (List.take (0 + key.length) ([] ++ key ++ List.drop (0 + key.length) (pu .u8 (List.replicate 200 0)))) && decide ((List.take (0 + key.length) ([] ++ key ++ List.drop (0 + key.length) (pu .u8 (List.replicate 200 0)))).length ≤ 1000000000) && (allInt .u8 (flat [.ro 5 false false (List.take (0 + b.length) ([] ++ b ++ List.drop (0 + b.length) (pu .u8 (List.replicate 200 0))))]) && decide ((flat [.ro 5 false false (List.take (0 + b.length) ([] ++ b ++ List.drop (0 + b.length) (pu .u8 (List.replicate 200 0))))]).length ≤ 1000000000)) && true then
          lp7_0 f (fun _ _ _ _ _ _ x _ _ _ _ => k ⟨.sc (.bool x), [], []⟩) (fun kz _ key bz _ b p q u v =>
            bif allInt .u8 (List.take p u) && true then
              bif allInt .u8 key && true then
                bif beqB ⟨(toBytes (List.take p u)).toArray⟩ ⟨(toBytes key).toArray⟩ then
                  bif allInt .u8 (List.take q v) && true then
                    bif allInt .u8 b && true then
                      k ⟨.sc (.bool (beqB ⟨(toBytes (List.take q v)).toArray⟩ ⟨(toBytes b).toArray⟩)), [], []⟩
                    else none
                  else none
                else k ⟨.sc (.bool false), [], []⟩
              else none
            else none) f kz kf key bz bf b (0 + key.length) (0 + b.length) (zi (0 + key.length)) ([] ++ key ++ List.drop (0 + key.length) (pu .u8 (List.replicate 200 0))) ([] ++ b ++ List.drop (0 + b.length) (pu .u8 (List.replicate 200 0)))
        else none
      else none
    else none) := by kernel_rfl
theorem g7_eq (kz kf : Bool) (K : List Int) (bz bf : Bool) (B : List Int) (k : Res → Option Res) :
    g7 300 kz kf (pu .u8 K) bz bf (pu .u8 B) k = k ⟨.sc (.bool true), [], []⟩ := by
  rw [g7_form]
  by_cases c1 : K.length > 100
  · exact bif_t (by simp [zi]; omega)
  refine (bif_f (by simp [zi]; omega)).trans ?_
  by_cases c2 : B.length > 100
  · exact bif_t (by simp [zi]; omega)
  refine (bif_f (by simp [zi]; omega)).trans ?_
  have eK : ∀ L : List Int, [] ++ pu .u8 L ++ List.drop L.length (pu .u8 (List.replicate 200 0)) = pu .u8 (L ++ List.replicate (200 - L.length) 0) := fun L => by
    rw [pu_drop, List.drop_replicate, List.nil_append, ← pu_append]
  have tK : ∀ L R : List Int, List.take L.length (pu .u8 (L ++ R)) = pu .u8 L := fun L R => by rw [pu_take, List.take_left' rfl]
  have hf : ∀ (x z : Bool) (l : List PV), flat [.ro 5 x z l] = l := fun x z l => by simp [PV.els]
  have d1 : decide (K.length ≤ 1000000000) = true := by simp; omega
  have d2 : decide (B.length ≤ 1000000000) = true := by simp; omega
  simp only [pu_length, Nat.zero_add, eK, tK, hf, allInt_pu, d1, d2, Bool.true_and, Bool.and_true, cond_true]
  refine (bif_t (by simp; omega)).trans ((bif_t (by simp; omega)).trans ?_)
  refine (l7_0 K 300 _ _ kz kf bz bf (pu .u8 K) (pu .u8 B) _ K.length B.length (200 - K.length) K.length 300 (by omega) (by omega) (by omega)).trans ?_
  simp only [tK, allInt_pu, beqB_iff.2, cond_true]
noncomputable def run7' : List PV → List Ent → (Res → Option Res) → Option Res
  | [.ro 5 kz kf key, .ro 5 bz bf b], [], k => bif allInt .u8 key && allInt .u8 b then k ⟨.sc (.bool true), [], []⟩ else none
  | _, _, _ => none
noncomputable def s7' : Sig := { own := [], run := run7' }
theorem ok7' : CallOk tau Try.prog 7 s7' := CallOk.mk' fun xs es k res hl hr => by
  change run7' xs es k = some res at hr
  unfold run7' at hr
  split at hr
  · rename_i kz kf key bz bf b
    obtain ⟨hc, hr⟩ := of_bif hr
    simp only [Bool.and_eq_true] at hc
    have h2 : g7 300 kz kf key bz bf b k = some res := by
      rw [pu_ints hc.1, pu_ints hc.2, g7_eq]; exact hr
    exact fn_at tabOk F7_ok mixed fo7 bo7 (an7 (r7_0 300)) [.ro] 0 0 (ia7 300) hl rfl ((e7 300 kz kf key bz bf b k).trans h2)
  · cases hr
theorem run7_true : ∀ pvs, TyL tau 4 [22, 22] pvs → s7'.run pvs [] some = some ⟨.sc (.bool true), [], []⟩ := by
  intro pvs h
  obtain ⟨p, q, rfl, h1, h2⟩ := tyL2 h
  have u1 : tau.und 22 = some (.slice 5) := by kernel_rfl
  have u2 : tau.und 5 = some (.int .u8) := by kernel_rfl
  obtain ⟨nl, els, rfl, _, _, t1⟩ := ty_slice u1 h1
  obtain ⟨nl2, els2, rfl, _, _, t2⟩ := ty_slice u1 h2
  exact bif_t (by rw [ty_ints u2 els t1, ty_ints u2 els2 t2]; rfl)
end Go.Proofs.Ytodldmomneecpaa.Rx
