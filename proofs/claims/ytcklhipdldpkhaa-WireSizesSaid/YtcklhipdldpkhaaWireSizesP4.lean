/- What the functions of this law compute, and their plain laws. Conditions: none. -/
import Derived.Test.YtcklhipdldpkhaaWireSizesP3
/- What comitia/comitialaw16.WireSizes computes. Own work, printed by a program of the worker's own. -/
namespace Go.Proofs.Ytcklhipdldpkhaa.Rx
open Go
set_option linter.unusedVariables false
set_option maxRecDepth 100000
set_option maxHeartbeats 0
def N11 : Nat := 35
noncomputable def F11 : Fns := addF 41 s41' (addF 33 s33' (addF 32 s32' (addF 31 s31' (addF 21 s21' (F0)))))
theorem F11_ok : FnsOk tau Try.prog F11 := (((((F0_ok).add ok21' en21).add ok31' en31).add ok32' en32).add ok33' en33).add ok41' en41
noncomputable def c11_0 : Code := subC (Try.f11.body.get!) [1, 1, 1, 1, 1, 0, 1, 0, 0]
def nm11_0 : Nm := [(3, .any), (4, .any), (5, .any)]
def nx11_0 : Nm := [(3, .any), (4, .any)]
def x11_0 : An := (.seq (.seq .leaf (.cond .leaf .leaf)) (.seq (.block none .leaf) .leaf))
def an11 (r0 : RunL) : An := (.seq .leaf (.seq (.seq .leaf (.cond (.seq .leaf .leaf) .leaf)) (.seq (.seq .leaf (.cond (.seq .leaf .leaf) .leaf)) (.seq .leaf (.seq .leaf (.seq (.seq .leaf (.block none (.sum nm11_0 N11 r0))) (.seq .leaf .leaf)))))))
noncomputable def lpS11_0 (f : Nat) (rc : Int → Int → Int → Int → Int → Int → Int → Int → Int → Int → Int → Int → Int → Int → Int → Bool → Bool → List PV → Option Res) (k0 : Int → Int → Int → Int → Int → Int → Int → Int → Int → Int → Int → Int → Int → Int → Bool → Bool → List PV → Option Res) (v0 : Int) (v1 : Int) (v2 : Int) (v3 : Int) (v4 : Int) (v5 : Int) (v6 : Int) (v7 : Int) (v8 : Int) (v9 : Int) (v10 : Int) (v11 : Int) (v12 : Int) (v13 : Int) (v14 : Int) (v15 : Bool) (v16 : Bool) (v17 : List PV) : Option Res := bif decide (v1 < zi v17.length) then bif decide (0 ≤ v1) && decide (v1 < zi v17.length) && PV.isRo 5 (v17.getD v1.toNat PV.top) && true then rc (IntKind.i64.wrap (IntKind.i64.wrap (v0 + 2) + zi (v17.getD v1.toNat PV.top).els.length)) (IntKind.i64.wrap (v1 + 1)) v2 v3 v4 v5 v6 v7 v8 v9 v10 v11 v12 v13 v14 v15 v16 v17 else none else k0 v0 v2 v3 v4 v5 v6 v7 v8 v9 v10 v11 v12 v13 v14 v15 v16 v17
noncomputable def lp11_0 (f : Nat) (k0 : Int → Int → Int → Int → Int → Int → Int → Int → Int → Int → Int → Int → Int → Int → Bool → Bool → List
  PV → Option Res) : Nat → Int → Int → Int → Int → Int → Int → Int → Int → Int → Int → Int → Int → Int → Int → Int → Bool → Bool → List PV → Option Res
  | 0, _, _, _, _, _, _, _, _, _, _, _, _, _, _, _, _, _, _ => none
  | n + 1, v0, v1, v2, v3, v4, v5, v6, v7, v8, v9, v10, v11, v12, v13, v14, v15, v16, v17 => lpS11_0 f (lp11_0 f k0 n) k0 v0 v1 v2 v3 v4 v5 v6 v7 v8 v9 v10 v11 v12 v13 v14 v15 v16 v17
theorem lpR11_0 (f : Nat) (k : Kont) (n : Nat) (v0 : Int) (v1 : Int) (v2 : Int) (v3 : Int) (v4 : Int) (v5 : Int) (v6 : Int) (v7 : Int) (v8 : Int) (v9 : Int) (v10 : Int) (v11 : Int) (v12 : Int) (v13 : Int) (v14 : Int) (v15 : Bool) (v16 : Bool) (v17 : List PV) : evLoop tau 0 nm11_0 (fun s k => ev tau F11 0 0 c11_0 (x11_0 ) s k) (n + 1) (fillS nm11_0 N11 [.ptr 576 [], .sc (.int .i64 v0), .sc (.int .i64 v1)] [(576, .box false 54 (PV.st 54 [.sc (.int .i64 v2), .sc (.int .i64 v3), .sc (.int .i64 v4), .st 34 [.sc (.int .i64 v5), .sc (.int .i64 v6)], .st 45 [.sc (.int .i64 v7), .sc (.int .i64 v8)], .sc (.int .i64 v9), .sc (.int .i64 v10), .st 45 [.sc (.int .i64 v11), .sc (.int .i64 v12)], .sc (.int .i64 v13), .sc (.int .i64 v14), .ro 29 v15 v16 v17]))]) (kNorm tau 0 nx11_0 k) = lpS11_0 f (fun v0 v1 v2 v3 v4 v5 v6 v7 v8 v9 v10 v11 v12 v13 v14 v15 v16 v17 => evLoop tau 0 nm11_0 (fun s k => ev tau F11 0 0 c11_0 (x11_0 ) s k) n (fillS nm11_0 N11 [.ptr 576 [], .sc (.int .i64 v0), .sc (.int .i64 v1)] [(576, .box false 54 (PV.st 54 [.sc (.int .i64 v2), .sc (.int .i64 v3), .sc (.int .i64 v4), .st 34 [.sc (.int .i64 v5), .sc (.int .i64 v6)], .st 45 [.sc (.int .i64 v7), .sc (.int .i64 v8)], .sc (.int .i64 v9), .sc (.int .i64 v10), .st 45 [.sc (.int .i64 v11), .sc (.int .i64 v12)], .sc (.int .i64 v13), .sc (.int .i64 v14), .ro 29 v15 v16 v17]))]) (kNorm tau 0 nx11_0 k)) (fun x0 x1 x2 x3 x4 x5 x6 x7 x8 x9 x10 x11 x12 x13 x14 x15 x16 => k (Ex.exit 0) (fillS nx11_0 N11 [.ptr 576 [], .sc (.int .i64 x0)] [(576, .box false 54 (PV.st 54 [.sc (.int .i64 x1), .sc (.int .i64 x2), .sc (.int .i64 x3), .st 34 [.sc (.int .i64 x4), .sc (.int .i64 x5)], .st 45 [.sc (.int .i64 x6), .sc (.int .i64 x7)], .sc (.int .i64 x8), .sc (.int .i64 x9), .st 45 [.sc (.int .i64 x10), .sc (.int .i64 x11)], .sc (.int .i64 x12), .sc (.int .i64 x13), .ro 29 x14 x15 x16]))])) v0 v1 v2 v3 v4 v5 v6 v7 v8 v9 v10 v11 v12 v13 v14 v15 v16 v17 := by kernel_rfl
theorem lpE11_0 (f : Nat) (k : Kont) : ∀ (n : Nat) (v0 : Int) (v1 : Int) (v2 : Int) (v3 : Int) (v4 : Int) (v5 : Int) (v6 : Int) (v7 : Int) (v8 : Int) (v9 : Int) (v10 : Int) (v11 : Int) (v12 : Int) (v13 : Int) (v14 : Int) (v15 : Bool) (v16 : Bool) (v17 : List PV), evLoop tau 0 nm11_0 (fun s k => ev tau F11 0 0 c11_0 (x11_0 ) s k) n (fillS nm11_0 N11 [.ptr 576 [], .sc (.int .i64 v0), .sc (.int .i64 v1)] [(576, .box false 54 (PV.st 54 [.sc (.int .i64 v2), .sc (.int .i64 v3), .sc (.int .i64 v4), .st 34 [.sc (.int .i64 v5), .sc (.int .i64 v6)], .st 45 [.sc (.int .i64 v7), .sc (.int .i64 v8)], .sc (.int .i64 v9), .sc (.int .i64 v10), .st 45 [.sc (.int .i64 v11), .sc (.int .i64 v12)], .sc (.int .i64 v13), .sc (.int .i64 v14), .ro 29 v15 v16 v17]))]) (kNorm tau 0 nx11_0 k) = lp11_0 f (fun x0 x1 x2 x3 x4 x5 x6 x7 x8 x9 x10 x11 x12 x13 x14 x15 x16 => k (Ex.exit 0) (fillS nx11_0 N11 [.ptr 576 [], .sc (.int .i64 x0)] [(576, .box false 54 (PV.st 54 [.sc (.int .i64 x1), .sc (.int .i64 x2), .sc (.int .i64 x3), .st 34 [.sc (.int .i64 x4), .sc (.int .i64 x5)], .st 45 [.sc (.int .i64 x6), .sc (.int .i64 x7)], .sc (.int .i64 x8), .sc (.int .i64 x9), .st 45 [.sc (.int .i64 x10), .sc (.int .i64 x11)], .sc (.int .i64 x12), .sc (.int .i64 x13), .ro 29 x14 x15 x16]))])) n v0 v1 v2 v3 v4 v5 v6 v7 v8 v9 v10 v11 v12 v13 v14 v15 v16 v17 | 0, _, _, _, _, _, _, _, _, _, _, _, _, _, _, _, _, _, _ => rfl | n + 1, v0, v1, v2, v3, v4, v5, v6, v7, v8, v9, v10, v11, v12, v13, v14, v15, v16, v17 => (lpR11_0 f k n v0 v1 v2 v3 v4 v5 v6 v7 v8 v9 v10 v11 v12 v13 v14 v15 v16 v17).trans (congrArg (fun r => lpS11_0 f r (fun x0 x1 x2 x3 x4 x5 x6 x7 x8 x9 x10 x11 x12 x13 x14 x15 x16 => k (Ex.exit 0) (fillS nx11_0 N11 [.ptr 576 [], .sc (.int .i64 x0)] [(576, .box false 54 (PV.st 54 [.sc (.int .i64 x1), .sc (.int .i64 x2), .sc (.int .i64 x3), .st 34 [.sc (.int .i64 x4), .sc (.int .i64 x5)], .st 45 [.sc (.int .i64 x6), .sc (.int .i64 x7)], .sc (.int .i64 x8), .sc (.int .i64 x9), .st 45 [.sc (.int .i64 x10), .sc (.int .i64 x11)], .sc (.int .i64 x12), .sc (.int .i64 x13), .ro 29 x14 x15 x16]))])) v0 v1 v2 v3 v4 v5 v6 v7 v8 v9 v10 v11 v12 v13 v14 v15 v16 v17) (by funext v0 v1 v2 v3 v4 v5 v6 v7 v8 v9 v10 v11 v12 v13 v14 v15 v16 v17; exact lpE11_0 f k n v0 v1 v2 v3 v4 v5 v6 v7 v8 v9 v10 v11 v12 v13 v14 v15 v16 v17))
noncomputable def r11_0 (f : Nat) : List PV → List (Nat × Ent) → Kont → Option Res
  | [.ptr 576 [], .sc (.int .i64 v0),
  PV.sc
    (Value.int IntKind.i64
      v1)], [(576,
    Ent.box false 54
      (PV.st 54
        [.sc (.int .i64 v2), .sc (.int .i64 v3), .sc (.int .i64 v4), .st 34 [.sc (.int .i64 v5), .sc (.int .i64 v6)],
          PV.st 45 [.sc (.int .i64 v7), .sc (.int .i64 v8)], .sc (.int .i64 v9), .sc (.int .i64 v10),
          PV.st 45 [.sc (.int .i64 v11), .sc (.int .i64 v12)], .sc (.int .i64 v13), .sc (.int .i64 v14),
          PV.ro 29 v15 v16
            v17]))], k => lp11_0 f (fun x0 x1 x2 x3 x4 x5 x6 x7 x8 x9 x10 x11 x12 x13 x14 x15 x16 => k (Ex.exit
  0) (fillS nx11_0 N11 [.ptr 576 [],
  PV.sc
    (Value.int IntKind.i64
      x0)] [(576,
    Ent.box false 54
      (PV.st 54
        [.sc (.int .i64 x1), .sc (.int .i64 x2), .sc (.int .i64 x3), .st 34 [.sc (.int .i64 x4), .sc (.int .i64 x5)],
          PV.st 45 [.sc (.int .i64 x6), .sc (.int .i64 x7)], .sc (.int .i64 x8), .sc (.int .i64 x9),
          PV.st 45 [.sc (.int .i64 x10), .sc (.int .i64 x11)], .sc (.int .i64 x12), .sc (.int .i64 x13),
          PV.ro 29 x14 x15 x16]))])) f v0 v1 v2 v3 v4 v5 v6 v7 v8 v9 v10 v11 v12 v13 v14 v15 v16 v17
  | _, _, _ => none
theorem it11_0 (f : Nat) : items c11_0 x11_0 = [] := by kernel_rfl
theorem i11_0 (f : Nat) : (Item.l c11_0 nm11_0 N11 (r11_0 f)).Ok tau Try.prog 0 := loop_item tabOk F11_ok mixed (x := x11_0) (nm2 := nx11_0) (anOk_items _ _ (by rw [it11_0 f]; intro q hq; cases hq)) fun vs hp k res hr => by
  unfold r11_0 at hr
  split at hr
  · exact ⟨f, 0, (lpE11_0 f _ f _ _ _ _ _ _ _ _ _ _ _ _ _ _ _ _ _ _ ).trans hr⟩
  · cases hr
noncomputable def g11 (f : Nat) (m_Kind : Int) (m_From : Int) (m_To : Int) (m_W_Host : Int) (m_W_N : Int) (m_Creator_D : Int) (m_Creator_U : Int) (m_Version : Int) (m_Commit : Int) (m_Author_D : Int) (m_Author_U : Int) (m_Sub : Int) (m_Err : Int) (m_Body_z : Bool) (m_Body_f : Bool) (m_Body : List PV) (k : Res → Option Res) : Option Res := bif m_Body.all (PV.isRo 5) && m_Body.length.ble 9223372036854775807 then bif !fewB m_Body then k (Res.mk (.sc (.bool true)) [] []) else lp11_0 f (fun x0_0 x1_0 x2_0 x3_0 x4_0 x5_0 x6_0 x7_0 x8_0 x9_0 x10_0 x11_0 x12_0 x13_0 x14_0 x15_0 x16_0 => bif rOk x16_0 && (kOk (kb 0 []) && (kOk (kb 1 []) && kOk (kb 2 []))) then k (Res.mk (.sc (.bool (zi (wB (WM.mk [.ro 5 false false (kb 0 []), .ro 5 false false (kb 1 []), .ro 5 false false (kb 2 [])] (C13.mk x1_0 x2_0 x3_0 x4_0 x5_0 x6_0 x7_0 x8_0 x9_0 x10_0 x11_0 x12_0 x13_0) x16_0)).length == x0_0))) [] []) else none) f (130) (0) (goodF 0 (C13.mk m_Kind m_From m_To m_W_Host m_W_N m_Creator_D m_Creator_U m_Version m_Commit m_Author_D m_Author_U m_Sub m_Err)) (goodF 1 (C13.mk m_Kind m_From m_To m_W_Host m_W_N m_Creator_D m_Creator_U m_Version m_Commit m_Author_D m_Author_U m_Sub m_Err)) (goodF 2 (C13.mk m_Kind m_From m_To m_W_Host m_W_N m_Creator_D m_Creator_U m_Version m_Commit m_Author_D m_Author_U m_Sub m_Err)) (goodF 3 (C13.mk m_Kind m_From m_To m_W_Host m_W_N m_Creator_D m_Creator_U m_Version m_Commit m_Author_D m_Author_U m_Sub m_Err)) (goodF 4 (C13.mk m_Kind m_From m_To m_W_Host m_W_N m_Creator_D m_Creator_U m_Version m_Commit m_Author_D m_Author_U m_Sub m_Err)) (goodF 5 (C13.mk m_Kind m_From m_To m_W_Host m_W_N m_Creator_D m_Creator_U m_Version m_Commit m_Author_D m_Author_U m_Sub m_Err)) (goodF 6 (C13.mk m_Kind m_From m_To m_W_Host m_W_N m_Creator_D m_Creator_U m_Version m_Commit m_Author_D m_Author_U m_Sub m_Err)) (goodF 7 (C13.mk m_Kind m_From m_To m_W_Host m_W_N m_Creator_D m_Creator_U m_Version m_Commit m_Author_D m_Author_U m_Sub m_Err)) (goodF 8 (C13.mk m_Kind m_From m_To m_W_Host m_W_N m_Creator_D m_Creator_U m_Version m_Commit m_Author_D m_Author_U m_Sub m_Err)) (goodF 9 (C13.mk m_Kind m_From m_To m_W_Host m_W_N m_Creator_D m_Creator_U m_Version m_Commit m_Author_D m_Author_U m_Sub m_Err)) (goodF 10 (C13.mk m_Kind m_From m_To m_W_Host m_W_N m_Creator_D m_Creator_U m_Version m_Commit m_Author_D m_Author_U m_Sub m_Err)) (goodF 11 (C13.mk m_Kind m_From m_To m_W_Host m_W_N m_Creator_D m_Creator_U m_Version m_Commit m_Author_D m_Author_U m_Sub m_Err)) (goodF 12 (C13.mk m_Kind m_From m_To m_W_Host m_W_N m_Creator_D m_Creator_U m_Version m_Commit m_Author_D m_Author_U m_Sub m_Err)) m_Body_z m_Body_z (gB m_Body) else none
theorem e11 (f : Nat) (m_Kind : Int) (m_From : Int) (m_To : Int) (m_W_Host : Int) (m_W_N : Int) (m_Creator_D : Int) (m_Creator_U : Int) (m_Version : Int) (m_Commit : Int) (m_Author_D : Int) (m_Author_U : Int) (m_Sub : Int) (m_Err : Int) (m_Body_z : Bool) (m_Body_f : Bool) (m_Body : List PV) (k : Res → Option Res) : evFn tau F11 Try.f11 (Try.f11.body.get!) (an11 (r11_0 f)) [.ro] 0 [.st 54 [.sc (.int .i64 m_Kind), .sc (.int .i64 m_From), .sc (.int .i64 m_To), .st 34 [.sc (.int .i64 m_W_Host), .sc (.int .i64 m_W_N)], .st 45 [.sc (.int .i64 m_Creator_D), .sc (.int .i64 m_Creator_U)], .sc (.int .i64 m_Version), .sc (.int .i64 m_Commit), .st 45 [.sc (.int .i64 m_Author_D), .sc (.int .i64 m_Author_U)], .sc (.int .i64 m_Sub), .sc (.int .i64 m_Err), .ro 29 m_Body_z m_Body_f m_Body]] [] k = g11 f m_Kind m_From m_To m_W_Host m_W_N m_Creator_D m_Creator_U m_Version m_Commit m_Author_D m_Author_U m_Sub m_Err m_Body_z m_Body_f m_Body k := by kernel_rfl
theorem it11 (f : Nat) : items (Try.f11.body.get!) (an11 (r11_0 f)) = [.l c11_0 nm11_0 N11 (r11_0 f)] := by kernel_rfl
theorem ia11 (f : Nat) : ∀ q ∈ items (Try.f11.body.get!) (an11 (r11_0 f)), q.Ok tau Try.prog 0 := by
  rw [it11 f]; simp only [List.forall_mem_cons, List.not_mem_nil, false_implies, implies_true, and_true]; exact i11_0 f
theorem fo11 : Try.prog.funcs[11]? = some Try.f11 := by kernel_rfl
theorem bo11 : Try.f11.body = some (Try.f11.body.get!) := by kernel_rfl
end Go.Proofs.Ytcklhipdldpkhaa.Rx

/- What its type says of a message that is handed in. Own work. -/
namespace Go.Proofs.Ytcklhipdldpkhaa.Rx
open Go
set_option linter.unusedVariables false
set_option linter.unusedSimpArgs false
set_option maxRecDepth 100000
noncomputable def fldsOf (T : TypeId) : List TypeId := match tau.und T with | some (.struct fds) => fds.toList.map (·.type) | _ => []
theorem tyL_of {τ : Tab} {n : Nat} : ∀ (ts : List TypeId) (ps : List PV), ts.length = ps.length → (∀ (i : Nat) (t : TypeId) (q : PV), ts[i]? = some t → ps[i]? = some q → Ty τ n t q) → TyL τ n ts ps
  | [], [], _, _ => trivial
  | t :: ts, p :: ps, hl, h => ⟨h 0 t p rfl rfl, tyL_of ts ps (by simpa using hl) fun i t q h1 h2 => h (i + 1) t q (by simpa using h1) (by simpa using h2)⟩
  | [], _ :: _, hl, _ => by simp at hl
  | _ :: _, [], hl, _ => by simp at hl
theorem tyL_cons {τ : Tab} {n : Nat} {t : TypeId} {ts : List TypeId} {ps : List PV} (h : TyL τ n (t :: ts) ps) : ∃ p r, ps = p :: r ∧ Ty τ n t p ∧ TyL τ n ts r := by
  cases ps with
  | nil => exact h.elim
  | cons p r => exact ⟨p, r, rfl, h.1, h.2⟩
theorem tyL_nil {τ : Tab} {n : Nat} {ps : List PV} (h : TyL τ n [] ps) : ps = [] := by
  cases ps with
  | nil => rfl
  | cons p r => exact h.elim
theorem ty_fields {n : Nat} {T : TypeId} {tys : List TypeId} {p : PV} (hc : fldsOf T = tys) (hne : tys ≠ []) (h : Ty tau (n + 1) T p) : ∃ fs, p = .st T fs ∧ TyL tau n tys fs := by
  unfold fldsOf at hc
  split at hc
  · rename_i fds hu
    obtain ⟨fs, rfl, hl, hf⟩ := ty_struct hu h
    refine ⟨fs, rfl, tyL_of tys fs (by rw [← hc]; simpa using hl.symm) fun i t q h1 h2 => ?_⟩
    rw [← hc, List.getElem?_map] at h1
    rw [Array.getElem?_toList] at h1
    cases hfi : fds[i]? with
    | none => rw [hfi] at h1; cases h1
    | some f =>
      rw [hfi] at h1
      obtain rfl := Option.some.inj h1
      exact hf i f q hfi h2
  · exact absurd hc.symm hne
theorem ty_i64 {n : Nat} {p : PV} (h : Ty tau (n + 1) 3 p) : ∃ x, p = .sc (.int .i64 x) ∧ i64B x = true := by
  have u : tau.und 3 = some (.int .i64) := by kernel_rfl
  obtain ⟨x, rfl, hx⟩ := ty_int u h
  refine ⟨x, rfl, ?_⟩
  have e1 : IntKind.i64.min = -9223372036854775808 := rfl
  have e2 : IntKind.i64.max = 9223372036854775807 := rfl
  simp only [Lit.wf, e1, e2, Bool.and_eq_true, decide_eq_true_eq] at hx
  simp only [i64B, Bool.and_eq_true, decide_eq_true_eq]
  omega
theorem ty_two {n : Nat} {T : TypeId} {p : PV} (hc : fldsOf T = [3, 3]) (h : Ty tau (n + 2) T p) : ∃ x y, p = .st T [.sc (.int .i64 x), .sc (.int .i64 y)] := by
  obtain ⟨fs, rfl, hf⟩ := ty_fields (n := n + 1) hc (List.cons_ne_nil _ _) h
  obtain ⟨p, q, rfl, h1, h2⟩ := tyL2 hf
  obtain ⟨x, rfl, _⟩ := ty_i64 h1
  obtain ⟨y, rfl, _⟩ := ty_i64 h2
  exact ⟨x, y, rfl⟩
theorem ty_bodies {n : Nat} {p : PV} (h : Ty tau (n + 3) 47 p) : ∃ z b, p = .ro 29 z false b ∧ (z = true → b = []) ∧ b.length ≤ maxLen ∧ b.all (PV.isRo 5) = true ∧ allInt .u8 (flat b) = true := by
  have u : tau.und 47 = some (.slice 29) := by kernel_rfl
  obtain ⟨z, b, rfl, hz, hl, hb⟩ := ty_slice u h
  obtain ⟨r1, r2⟩ := ty_rows b hb
  exact ⟨z, b, rfl, hz, hl, r1, r2⟩
theorem ty_msg {n : Nat} {p : PV} (h : Ty tau (n + 4) 54 p) : ∃ kd fr to wh wn cd cu ve co ad au su er z b,
    p = .st 54 [.sc (.int .i64 kd), .sc (.int .i64 fr), .sc (.int .i64 to), .st 34 [.sc (.int .i64 wh), .sc (.int .i64 wn)], .st 45 [.sc (.int .i64 cd), .sc (.int .i64 cu)], .sc (.int .i64 ve), .sc (.int .i64 co), .st 45 [.sc (.int .i64 ad), .sc (.int .i64 au)], .sc (.int .i64 su), .sc (.int .i64 er), .ro 29 z false b] ∧
    b.all (PV.isRo 5) = true ∧ allInt .u8 (flat b) = true ∧ b.length ≤ maxLen ∧ (z = true → b = []) := by
  have c1 : fldsOf 54 = [3, 3, 3, 34, 45, 3, 3, 45, 3, 3, 47] := by kernel_rfl
  have c2 : fldsOf 34 = [3, 3] := by kernel_rfl
  have c3 : fldsOf 45 = [3, 3] := by kernel_rfl
  obtain ⟨fs, rfl, hf⟩ := ty_fields (n := n + 3) c1 (List.cons_ne_nil _ _) h
  obtain ⟨p0, fs, rfl, h0, hf⟩ := tyL_cons hf
  obtain ⟨p1, fs, rfl, h1, hf⟩ := tyL_cons hf
  obtain ⟨p2, fs, rfl, h2, hf⟩ := tyL_cons hf
  obtain ⟨p3, fs, rfl, h3, hf⟩ := tyL_cons hf
  obtain ⟨p4, fs, rfl, h4, hf⟩ := tyL_cons hf
  obtain ⟨p5, fs, rfl, h5, hf⟩ := tyL_cons hf
  obtain ⟨p6, fs, rfl, h6, hf⟩ := tyL_cons hf
  obtain ⟨p7, fs, rfl, h7, hf⟩ := tyL_cons hf
  obtain ⟨p8, fs, rfl, h8, hf⟩ := tyL_cons hf
  obtain ⟨p9, fs, rfl, h9, hf⟩ := tyL_cons hf
  obtain ⟨p10, fs, rfl, h10, hf⟩ := tyL_cons hf
  obtain rfl := tyL_nil hf
  obtain ⟨kd, rfl, _⟩ := ty_i64 h0
  obtain ⟨fr, rfl, _⟩ := ty_i64 h1
  obtain ⟨to, rfl, _⟩ := ty_i64 h2
  obtain ⟨wh, wn, rfl⟩ := ty_two c2 h3
  obtain ⟨cd, cu, rfl⟩ := ty_two c3 h4
  obtain ⟨ve, rfl, _⟩ := ty_i64 h5
  obtain ⟨co, rfl, _⟩ := ty_i64 h6
  obtain ⟨ad, au, rfl⟩ := ty_two c3 h7
  obtain ⟨su, rfl, _⟩ := ty_i64 h8
  obtain ⟨er, rfl, _⟩ := ty_i64 h9
  obtain ⟨z, b, rfl, hz, hl, r1, r2⟩ := ty_bodies h10
  exact ⟨kd, fr, to, wh, wn, cd, cu, ve, co, ad, au, su, er, z, b, rfl, r1, r2, hl, hz⟩
theorem few_rOk {l : List PV} (h1 : l.all (PV.isRo 5) = true) (h2 : allInt .u8 (flat l) = true) (h : fewB l = true) : rOk (gB l) = true := by
  rw [fewB_eq, Bool.and_eq_true, decide_eq_true_eq] at h
  rw [gB_eq]
  refine rOk_iff.2 ⟨?_, ?_, fun p hp => ?_, by simp; omega⟩
  · exact List.all_eq_true.2 fun p hp => List.all_eq_true.1 h1 p (List.mem_of_mem_take hp)
  · have : flat l = flat (l.take 4) ++ flat (l.drop 4) := by rw [← flat_append, List.take_append_drop]
    rw [this, allInt_append, Bool.and_eq_true] at h2
    exact h2.1
  · have := List.all_eq_true.1 h.1 p (List.mem_of_mem_take hp)
    have : p.els.length ≤ 200 := by simpa using this
    omega
theorem few_small {l : List PV} (h : fewB l = true) : (∀ p ∈ gB l, p.els.length ≤ 200) ∧ (gB l).length ≤ 4 := by
  rw [fewB_eq, Bool.and_eq_true, decide_eq_true_eq] at h
  rw [gB_eq]
  refine ⟨fun p hp => ?_, by simp; omega⟩
  have := List.all_eq_true.1 h.1 p (List.mem_of_mem_take hp)
  simpa using this
end Go.Proofs.Ytcklhipdldpkhaa.Rx

-- FN law16.WireSizes
/- WireSizes: a message is as long as its numbers, its bodies, and its sign. Own work. -/
namespace Go.Proofs.Ytcklhipdldpkhaa.Rx
open Go
set_option linter.unusedVariables false
set_option linter.unusedSimpArgs false
set_option maxRecDepth 100000
set_option maxHeartbeats 2000000
theorem textsB_app (a b : List ByteArray) : textsB (a ++ b) = textsB a ++ textsB b := by simp [textsB]
theorem l11_0 (b : List PV) (h1 : b.all (PV.isRo 5) = true) (h3 : ∀ p ∈ b, p.els.length ≤ 65535) (h4 : b.length ≤ 4) (f : Nat) (k0 : Int → Int → Int → Int → Int → Int → Int → Int → Int → Int → Int → Int → Int → Int → Bool → Bool → List PV → Option Res) (R : Option Res) (kd fr to wh wn cd cu ve co ad au su er : Int) (z fl : Bool)
    (hk : k0 (130 + ((textsB (b.map txB)).length : Int)) kd fr to wh wn cd cu ve co ad au su er z fl b = R) : ∀ (d i n : Nat), i + d = b.length → d < n → lp11_0 f k0 n (130 + ((textsB ((b.take i).map txB)).length : Int)) (i : Int) kd fr to wh wn cd cu ve co ad au su er z fl b = R
  | 0, i, n + 1, hi, hn => by
      rw [List.take_of_length_le (by omega)]
      simp only [lp11_0, lpS11_0]
      exact (bif_f (by simp [zi]; omega)).trans hk
  | d + 1, i, n + 1, hi, hn => by
      have g1 : ((i : Int)).toNat = i := by omega
      have w1 : IntKind.i64.wrap ((i : Int) + 1) = ((i + 1 : Nat) : Int) := by rw [wrap_i64 (by omega) (by omega)]; omega
      have ht : b.take (i + 1) = b.take i ++ [b.getD i .top] := by
        rw [List.take_add_one, List.getElem?_eq_getElem (by omega)]; simp [List.getD_eq_getElem?_getD, show i < b.length by omega]
      have hmem : b.getD i .top ∈ b := by rw [List.getD_eq_getElem?_getD, List.getElem?_eq_getElem (by omega)]; exact List.getElem_mem (by omega)
      have hsz := h3 _ hmem
      have hle := textsB_len 65535 ((b.take i).map txB) (txs_small fun p hp => h3 p (List.mem_of_mem_take hp))
      rw [List.length_map, List.length_take] at hle
      have hm : min i b.length * 65537 ≤ 4 * 65537 := Nat.mul_le_mul_right _ (by omega)
      have he : (textsB ((b.take (i + 1)).map txB)).length = (textsB ((b.take i).map txB)).length + ((b.getD i .top).els.length + 2) := by
        rw [ht, List.map_append, textsB_app, List.length_append]
        simp [textsB, txB_size]
      have w2 : IntKind.i64.wrap (IntKind.i64.wrap (130 + ((textsB ((b.take i).map txB)).length : Int) + 2) + zi (b.getD i .top).els.length) = 130 + ((textsB ((b.take (i + 1)).map txB)).length : Int) := by
        rw [he]; simp only [zi]
        rw [wrap_i64 (x := 130 + ((textsB ((b.take i).map txB)).length : Int) + 2) (by omega) (by omega), wrap_i64 (by omega) (by omega)]; omega
      simp only [lp11_0, lpS11_0, g1, w1, w2]
      refine (bif_t (by simp [zi]; omega)).trans ((bif_t (by rw [isRo_getD h1 (by omega)]; simp [zi]; omega)).trans ?_)
      exact l11_0 b h1 h3 h4 f k0 R kd fr to wh wn cd cu ve co ad au su er z fl hk d (i + 1) n (by omega) (by omega)
theorem g11_true (kd fr to wh wn cd cu ve co ad au su er : Int) (z f : Bool) (b : List PV) (h1 : b.all (PV.isRo 5) = true) (h2 : allInt .u8 (flat b) = true) (h3 : b.length ≤ 9223372036854775807) (k : Res → Option Res) : g11 20 kd fr to wh wn cd cu ve co ad au su er z f b k = k ⟨.sc (.bool true), [], []⟩ := by
  unfold g11
  refine (bif_t (by rw [h1, Bool.true_and, Nat.ble_eq]; exact h3)).trans ?_
  cases hf : fewB b with
  | false => rfl
  | true =>
    have hr := few_rOk h1 h2 hf
    obtain ⟨r1, r2, r3, _⟩ := rOk_iff.1 hr
    obtain ⟨_, r4⟩ := few_small hf
    refine (bif_f rfl).trans ?_
    refine l11_0 (gB b) r1 r3 r4 20 _ _ (goodF 0 ⟨kd, fr, to, wh, wn, cd, cu, ve, co, ad, au, su, er⟩) (goodF 1 ⟨kd, fr, to, wh, wn, cd, cu, ve, co, ad, au, su, er⟩) (goodF 2 ⟨kd, fr, to, wh, wn, cd, cu, ve, co, ad, au, su, er⟩) (goodF 3 ⟨kd, fr, to, wh, wn, cd, cu, ve, co, ad, au, su, er⟩) (goodF 4 ⟨kd, fr, to, wh, wn, cd, cu, ve, co, ad, au, su, er⟩) (goodF 5 ⟨kd, fr, to, wh, wn, cd, cu, ve, co, ad, au, su, er⟩) (goodF 6 ⟨kd, fr, to, wh, wn, cd, cu, ve, co, ad, au, su, er⟩) (goodF 7 ⟨kd, fr, to, wh, wn, cd, cu, ve, co, ad, au, su, er⟩) (goodF 8 ⟨kd, fr, to, wh, wn, cd, cu, ve, co, ad, au, su, er⟩) (goodF 9 ⟨kd, fr, to, wh, wn, cd, cu, ve, co, ad, au, su, er⟩) (goodF 10 ⟨kd, fr, to, wh, wn, cd, cu, ve, co, ad, au, su, er⟩) (goodF 11 ⟨kd, fr, to, wh, wn, cd, cu, ve, co, ad, au, su, er⟩) (goodF 12 ⟨kd, fr, to, wh, wn, cd, cu, ve, co, ad, au, su, er⟩) z z ?_ (gB b).length 0 20 (by omega) (by omega)
    have hk : ∀ i, kOk (kb i []) = true := fun i => kb_ok i rfl
    refine (bif_t (by rw [hr, hk, hk, hk]; rfl)).trans ?_
    rw [wB_length, wB0_length]
    have : (zi (98 + (textsB ((gB b).map txB)).length + 32) == 130 + ((textsB ((gB b).map txB)).length : Int)) = true := by simp only [zi, beq_iff_eq]; omega
    rw [this]
noncomputable def run11' : List PV → List Ent → (Res → Option Res) → Option Res
  | [.st 54 [.sc (.int .i64 kd), .sc (.int .i64 fr), .sc (.int .i64 to), .st 34 [.sc (.int .i64 wh), .sc (.int .i64 wn)], .st 45 [.sc (.int .i64 cd), .sc (.int .i64 cu)], .sc (.int .i64 ve), .sc (.int .i64 co), .st 45 [.sc (.int .i64 ad), .sc (.int .i64 au)], .sc (.int .i64 su), .sc (.int .i64 er), .ro 29 z f b]], [], k => bif b.all (PV.isRo 5) && (allInt .u8 (flat b) && decide (b.length ≤ 9223372036854775807)) then k ⟨.sc (.bool true), [], []⟩ else none
  | _, _, _ => none
noncomputable def s11' : Sig := { own := [], run := run11' }
theorem ok11' : CallOk tau Try.prog 11 s11' := CallOk.mk' fun xs es k res hl hr => by
  change run11' xs es k = some res at hr
  unfold run11' at hr
  split at hr
  · rename_i kd fr to wh wn cd cu ve co ad au su er z f b
    obtain ⟨hc, hr⟩ := of_bif hr
    simp only [Bool.and_eq_true, decide_eq_true_eq] at hc
    exact fn_at tabOk F11_ok mixed fo11 bo11 (an11 (r11_0 20)) [.ro] 0 0 (ia11 20) hl rfl ((e11 20 kd fr to wh wn cd cu ve co ad au su er z f b k).trans ((g11_true kd fr to wh wn cd cu ve co ad au su er z f b hc.1 hc.2.1 hc.2.2 k).trans hr))
  · cases hr
theorem run11_true : ∀ pvs, TyL tau 4 [54] pvs → s11'.run pvs [] some = some ⟨.sc (.bool true), [], []⟩ := by
  intro pvs h
  obtain ⟨p, rfl, h1⟩ := tyL1 h
  obtain ⟨kd, fr, to, wh, wn, cd, cu, ve, co, ad, au, su, er, z, b, rfl, r1, r2, r3, _⟩ := ty_msg (n := 0) h1
  have hm : maxLen ≤ 9223372036854775807 := by decide
  exact bif_t (by rw [r1, r2, decide_eq_true (Nat.le_trans r3 hm)]; rfl)
end Go.Proofs.Ytcklhipdldpkhaa.Rx
