/- What the functions of this law compute, and their plain laws. Conditions: none. -/
import Derived.Test.YtcklhipdldpkhaaWireKeysP4
/- What comitia/comitiaref16.Same computes. Own work, printed by a program of the worker's own. -/
namespace Go.Proofs.Ytcklhipdldpkhaa.Rx
open Go
set_option linter.unusedVariables false
set_option maxRecDepth 100000
set_option maxHeartbeats 0
def N39 : Nat := 103
noncomputable def F39 : Fns := F0
theorem F39_ok : FnsOk tau Try.prog F39 := F0_ok
noncomputable def c39_0 : Code := subC (Try.f39.body.get!) [1, 1, 0, 1, 0, 0]
def nm39_0 : Nm := [(2, .any), (3, .any), (5, .any)]
def nx39_0 : Nm := [(4, .any)]
def x39_0 : An := (.seq (.seq .leaf (.cond .leaf .leaf)) (.seq (.block none (.seq .leaf (.cond (.seq .leaf .leaf) .leaf))) .leaf))
def an39 (r0 : RunL) : An := (.seq .leaf (.seq (.seq .leaf (.cond (.seq .leaf .leaf) .leaf)) (.seq (.seq .leaf (.block none (.sum nm39_0 N39 r0))) (.seq .leaf .leaf))))
noncomputable def lpS39_0 (f : Nat) (rc : Int → Int → Int → Int → Int → Int → Int → Int → Int → Int → Int → Int → Int → Int → Bool → Bool → List PV → Int → Int → Int → Int → Int → Int → Int → Int → Int → Int → Int → Int → Int → Bool → Bool → List PV → Option Res) (k0 : Bool → Option Res) (k1 : Option Res) (v0 : Int) (v1 : Int) (v2 : Int) (v3 : Int) (v4 : Int) (v5 : Int) (v6 : Int) (v7 : Int) (v8 : Int) (v9 : Int) (v10 : Int) (v11 : Int) (v12 : Int) (v13 : Int) (v14 : Bool) (v15 : Bool) (v16 : List PV) (v17 : Int) (v18 : Int) (v19 : Int) (v20 : Int) (v21 : Int) (v22 : Int) (v23 : Int) (v24 : Int) (v25 : Int) (v26 : Int) (v27 : Int) (v28 : Int) (v29 : Int) (v30 : Bool) (v31 : Bool) (v32 : List PV) : Option Res := bif decide (v0 < zi v16.length) then bif decide (0 ≤ v0) && decide (v0 < zi v16.length) && PV.isRo 5 (v16.getD v0.toNat PV.top) && true then bif allInt IntKind.u8 (v16.getD v0.toNat PV.top).els && true then bif decide (0 ≤ v0) && decide (v0 < zi v32.length) && PV.isRo 5 (v32.getD v0.toNat PV.top) && true then bif allInt IntKind.u8 (v32.getD v0.toNat PV.top).els && true then bif !beqB (ByteArray.mk (Array.mk (toBytes ((v16.getD v0.toNat PV.top).nl, (v16.getD v0.toNat PV.top).els).snd))) (ByteArray.mk (Array.mk (toBytes ((v32.getD v0.toNat PV.top).nl, (v32.getD v0.toNat PV.top).els).snd))) then k0 false else rc (IntKind.i64.wrap (v0 + 1)) v1 v2 v3 v4 v5 v6 v7 v8 v9 v10 v11 v12 v13 v14 v15 v16 v17 v18 v19 v20 v21 v22 v23 v24 v25 v26 v27 v28 v29 v30 v31 v32 else none else none else none else none else k1
noncomputable def lp39_0 (f : Nat) (k0 : Bool → Option Res) (k1 : Option Res) : Nat → Int → Int → Int → Int → Int → Int → Int → Int → Int → Int → Int → Int → Int → Int → Bool → Bool → List
  PV → Int → Int → Int → Int → Int → Int → Int → Int → Int → Int → Int → Int → Int → Bool → Bool → List PV → Option Res
  | 0, _, _, _, _, _, _, _, _, _, _, _, _, _, _, _, _, _, _, _, _, _, _, _, _, _, _, _, _, _, _, _, _, _ => none
  | n + 1, v0, v1, v2, v3, v4, v5, v6, v7, v8, v9, v10, v11, v12, v13, v14, v15, v16, v17, v18, v19, v20, v21, v22, v23, v24, v25, v26, v27, v28, v29, v30, v31, v32 => lpS39_0 f (lp39_0 f k0 k1 n) k0 k1 v0 v1 v2 v3 v4 v5 v6 v7 v8 v9 v10 v11 v12 v13 v14 v15 v16 v17 v18 v19 v20 v21 v22 v23 v24 v25 v26 v27 v28 v29 v30 v31 v32
theorem lpR39_0 (f : Nat) (k : Kont) (n : Nat) (v0 : Int) (v1 : Int) (v2 : Int) (v3 : Int) (v4 : Int) (v5 : Int) (v6 : Int) (v7 : Int) (v8 : Int) (v9 : Int) (v10 : Int) (v11 : Int) (v12 : Int) (v13 : Int) (v14 : Bool) (v15 : Bool) (v16 : List PV) (v17 : Int) (v18 : Int) (v19 : Int) (v20 : Int) (v21 : Int) (v22 : Int) (v23 : Int) (v24 : Int) (v25 : Int) (v26 : Int) (v27 : Int) (v28 : Int) (v29 : Int) (v30 : Bool) (v31 : Bool) (v32 : List PV) : evLoop tau 0 nm39_0 (fun s k => ev tau F39 0 0 c39_0 (x39_0 ) s k) (n + 1) (fillS nm39_0 N39 [.ptr 1664 [], .ptr 1665 [], .sc (.int .i64 v0)] [(1664, .box false 54 (PV.st 54 [.sc (.int .i64 v1), .sc (.int .i64 v2), .sc (.int .i64 v3), .st 34 [.sc (.int .i64 v4), .sc (.int .i64 v5)], .st 45 [.sc (.int .i64 v6), .sc (.int .i64 v7)], .sc (.int .i64 v8), .sc (.int .i64 v9), .st 45 [.sc (.int .i64 v10), .sc (.int .i64 v11)], .sc (.int .i64 v12), .sc (.int .i64 v13), .ro 29 v14 v15 v16])), (1665, .box false 54 (PV.st 54 [.sc (.int .i64 v17), .sc (.int .i64 v18), .sc (.int .i64 v19), .st 34 [.sc (.int .i64 v20), .sc (.int .i64 v21)], .st 45 [.sc (.int .i64 v22), .sc (.int .i64 v23)], .sc (.int .i64 v24), .sc (.int .i64 v25), .st 45 [.sc (.int .i64 v26), .sc (.int .i64 v27)], .sc (.int .i64 v28), .sc (.int .i64 v29), .ro 29 v30 v31 v32]))]) (kNorm tau 0 nx39_0 k) = lpS39_0 f (fun v0 v1 v2 v3 v4 v5 v6 v7 v8 v9 v10 v11 v12 v13 v14 v15 v16 v17 v18 v19 v20 v21 v22 v23 v24 v25 v26 v27 v28 v29 v30 v31 v32 => evLoop tau 0 nm39_0 (fun s k => ev tau F39 0 0 c39_0 (x39_0 ) s k) n (fillS nm39_0 N39 [.ptr 1664 [], .ptr 1665 [], .sc (.int .i64 v0)] [(1664, .box false 54 (PV.st 54 [.sc (.int .i64 v1), .sc (.int .i64 v2), .sc (.int .i64 v3), .st 34 [.sc (.int .i64 v4), .sc (.int .i64 v5)], .st 45 [.sc (.int .i64 v6), .sc (.int .i64 v7)], .sc (.int .i64 v8), .sc (.int .i64 v9), .st 45 [.sc (.int .i64 v10), .sc (.int .i64 v11)], .sc (.int .i64 v12), .sc (.int .i64 v13), .ro 29 v14 v15 v16])), (1665, .box false 54 (PV.st 54 [.sc (.int .i64 v17), .sc (.int .i64 v18), .sc (.int .i64 v19), .st 34 [.sc (.int .i64 v20), .sc (.int .i64 v21)], .st 45 [.sc (.int .i64 v22), .sc (.int .i64 v23)], .sc (.int .i64 v24), .sc (.int .i64 v25), .st 45 [.sc (.int .i64 v26), .sc (.int .i64 v27)], .sc (.int .i64 v28), .sc (.int .i64 v29), .ro 29 v30 v31 v32]))]) (kNorm tau 0 nx39_0 k)) (fun x0 => k Ex.ret (fillS nx39_0 N39 [.sc (.bool x0)] [])) (k (Ex.exit 0) (fillS nx39_0 N39 [PV.top] [])) v0 v1 v2 v3 v4 v5 v6 v7 v8 v9 v10 v11 v12 v13 v14 v15 v16 v17 v18 v19 v20 v21 v22 v23 v24 v25 v26 v27 v28 v29 v30 v31 v32 := by kernel_rfl
theorem lpE39_0 (f : Nat) (k : Kont) : ∀ (n : Nat) (v0 : Int) (v1 : Int) (v2 : Int) (v3 : Int) (v4 : Int) (v5 : Int) (v6 : Int) (v7 : Int) (v8 : Int) (v9 : Int) (v10 : Int) (v11 : Int) (v12 : Int) (v13 : Int) (v14 : Bool) (v15 : Bool) (v16 : List PV) (v17 : Int) (v18 : Int) (v19 : Int) (v20 : Int) (v21 : Int) (v22 : Int) (v23 : Int) (v24 : Int) (v25 : Int) (v26 : Int) (v27 : Int) (v28 : Int) (v29 : Int) (v30 : Bool) (v31 : Bool) (v32 : List PV), evLoop tau 0 nm39_0 (fun s k => ev tau F39 0 0 c39_0 (x39_0 ) s k) n (fillS nm39_0 N39 [.ptr 1664 [], .ptr 1665 [], .sc (.int .i64 v0)] [(1664, .box false 54 (PV.st 54 [.sc (.int .i64 v1), .sc (.int .i64 v2), .sc (.int .i64 v3), .st 34 [.sc (.int .i64 v4), .sc (.int .i64 v5)], .st 45 [.sc (.int .i64 v6), .sc (.int .i64 v7)], .sc (.int .i64 v8), .sc (.int .i64 v9), .st 45 [.sc (.int .i64 v10), .sc (.int .i64 v11)], .sc (.int .i64 v12), .sc (.int .i64 v13), .ro 29 v14 v15 v16])), (1665, .box false 54 (PV.st 54 [.sc (.int .i64 v17), .sc (.int .i64 v18), .sc (.int .i64 v19), .st 34 [.sc (.int .i64 v20), .sc (.int .i64 v21)], .st 45 [.sc (.int .i64 v22), .sc (.int .i64 v23)], .sc (.int .i64 v24), .sc (.int .i64 v25), .st 45 [.sc (.int .i64 v26), .sc (.int .i64 v27)], .sc (.int .i64 v28), .sc (.int .i64 v29), .ro 29 v30 v31 v32]))]) (kNorm tau 0 nx39_0 k) = lp39_0 f (fun x0 => k Ex.ret (fillS nx39_0 N39 [.sc (.bool x0)] [])) (k (Ex.exit 0) (fillS nx39_0 N39 [PV.top] [])) n v0 v1 v2 v3 v4 v5 v6 v7 v8 v9 v10 v11 v12 v13 v14 v15 v16 v17 v18 v19 v20 v21 v22 v23 v24 v25 v26 v27 v28 v29 v30 v31 v32 | 0, _, _, _, _, _, _, _, _, _, _, _, _, _, _, _, _, _, _, _, _, _, _, _, _, _, _, _, _, _, _, _, _, _ => rfl | n + 1, v0, v1, v2, v3, v4, v5, v6, v7, v8, v9, v10, v11, v12, v13, v14, v15, v16, v17, v18, v19, v20, v21, v22, v23, v24, v25, v26, v27, v28, v29, v30, v31, v32 => (lpR39_0 f k n v0 v1 v2 v3 v4 v5 v6 v7 v8 v9 v10 v11 v12 v13 v14 v15 v16 v17 v18 v19 v20 v21 v22 v23 v24 v25 v26 v27 v28 v29 v30 v31 v32).trans (congrArg (fun r => lpS39_0 f r (fun x0 => k Ex.ret (fillS nx39_0 N39 [.sc (.bool x0)] [])) (k (Ex.exit 0) (fillS nx39_0 N39 [PV.top] [])) v0 v1 v2 v3 v4 v5 v6 v7 v8 v9 v10 v11 v12 v13 v14 v15 v16 v17 v18 v19 v20 v21 v22 v23 v24 v25 v26 v27 v28 v29 v30 v31 v32) (by funext v0 v1 v2 v3 v4 v5 v6 v7 v8 v9 v10 v11 v12 v13 v14 v15 v16 v17 v18 v19 v20 v21 v22 v23 v24 v25 v26 v27 v28 v29 v30 v31 v32; exact lpE39_0 f k n v0 v1 v2 v3 v4 v5 v6 v7 v8 v9 v10 v11 v12 v13 v14 v15 v16 v17 v18 v19 v20 v21 v22 v23 v24 v25 v26 v27 v28 v29 v30 v31 v32))
noncomputable def r39_0 (f : Nat) : List PV → List (Nat × Ent) → Kont → Option Res
  | [.ptr 1664 [], .ptr 1665 [],
  PV.sc
    (Value.int IntKind.i64
      v0)], [(1664,
    Ent.box false 54
      (PV.st 54
        [.sc (.int .i64 v1), .sc (.int .i64 v2), .sc (.int .i64 v3), .st 34 [.sc (.int .i64 v4), .sc (.int .i64 v5)],
          PV.st 45 [.sc (.int .i64 v6), .sc (.int .i64 v7)], .sc (.int .i64 v8), .sc (.int .i64 v9),
          PV.st 45 [.sc (.int .i64 v10), .sc (.int .i64 v11)], .sc (.int .i64 v12), .sc (.int .i64 v13), .ro 29 v14 v15 v16])),
  (1665,
    Ent.box false 54
      (PV.st 54
        [.sc (.int .i64 v17), .sc (.int .i64 v18), .sc (.int .i64 v19), .st 34 [.sc (.int .i64 v20), .sc (.int .i64 v21)],
          PV.st 45 [.sc (.int .i64 v22), .sc (.int .i64 v23)], .sc (.int .i64 v24), .sc (.int .i64 v25),
          PV.st 45 [.sc (.int .i64 v26), .sc (.int .i64 v27)], .sc (.int .i64 v28), .sc (.int .i64 v29),
          PV.ro 29 v30 v31
            v32]))], k => lp39_0 f (fun x0 => k Ex.ret (fillS nx39_0 N39 [PV.sc
    (Value.bool x0)] [])) (k (Ex.exit 0) (fillS nx39_0 N39 [PV.top] [])) f v0 v1 v2 v3 v4 v5 v6 v7 v8 v9 v10 v11 v12 v13 v14 v15 v16 v17 v18 v19 v20 v21 v22 v23 v24 v25 v26 v27 v28 v29 v30 v31 v32
  | _, _, _ => none
theorem it39_0 (f : Nat) : items c39_0 x39_0 = [] := by kernel_rfl
theorem i39_0 (f : Nat) : (Item.l c39_0 nm39_0 N39 (r39_0 f)).Ok tau Try.prog 0 := loop_item tabOk F39_ok mixed (x := x39_0) (nm2 := nx39_0) (anOk_items _ _ (by rw [it39_0 f]; intro q hq; cases hq)) fun vs hp k res hr => by
  unfold r39_0 at hr
  split at hr
  · exact ⟨f, 0, (lpE39_0 f _ f _ _ _ _ _ _ _ _ _ _ _ _ _ _ _ _ _ _ _ _ _ _ _ _ _ _ _ _ _ _ _ _ _ ).trans hr⟩
  · cases hr
noncomputable def g39 (f : Nat) (a_Kind : Int) (a_From : Int) (a_To : Int) (a_W_Host : Int) (a_W_N : Int) (a_Creator_D : Int) (a_Creator_U : Int) (a_Version : Int) (a_Commit : Int) (a_Author_D : Int) (a_Author_U : Int) (a_Sub : Int) (a_Err : Int) (a_Body_z : Bool) (a_Body_f : Bool) (a_Body : List PV) (b_Kind : Int) (b_From : Int) (b_To : Int) (b_W_Host : Int) (b_W_N : Int) (b_Creator_D : Int) (b_Creator_U : Int) (b_Version : Int) (b_Commit : Int) (b_Author_D : Int) (b_Author_U : Int) (b_Sub : Int) (b_Err : Int) (b_Body_z : Bool) (b_Body_f : Bool) (b_Body : List PV) (k : Res → Option Res) : Option Res := bif a_Kind != b_Kind then k (Res.mk (.sc (.bool false)) [] []) else bif a_From != b_From then k (Res.mk (.sc (.bool false)) [] []) else bif a_To != b_To then k (Res.mk (.sc (.bool false)) [] []) else bif !(a_W_Host == b_W_Host && (a_W_N == b_W_N && true)) then k (Res.mk (.sc (.bool false)) [] []) else bif !(a_Creator_D == b_Creator_D && (a_Creator_U == b_Creator_U && true)) then k (Res.mk (.sc (.bool false)) [] []) else bif a_Version != b_Version then k (Res.mk (.sc (.bool false)) [] []) else bif a_Commit != b_Commit then k (Res.mk (.sc (.bool false)) [] []) else bif !(a_Author_D == b_Author_D && (a_Author_U == b_Author_U && true)) then k (Res.mk (.sc (.bool false)) [] []) else bif a_Sub != b_Sub then k (Res.mk (.sc (.bool false)) [] []) else bif a_Err != b_Err then k (Res.mk (.sc (.bool false)) [] []) else bif zi a_Body.length != zi b_Body.length then k (Res.mk (.sc (.bool false)) [] []) else lp39_0 f (fun x0_0 => k (Res.mk (.sc (.bool x0_0)) [] [])) (k (Res.mk (.sc (.bool true)) [] [])) f (0) a_Kind a_From a_To a_W_Host a_W_N a_Creator_D a_Creator_U a_Version a_Commit a_Author_D a_Author_U a_Sub a_Err a_Body_z a_Body_f a_Body b_Kind b_From b_To b_W_Host b_W_N b_Creator_D b_Creator_U b_Version b_Commit b_Author_D b_Author_U b_Sub b_Err b_Body_z b_Body_f b_Body
theorem e39 (f : Nat) (a_Kind : Int) (a_From : Int) (a_To : Int) (a_W_Host : Int) (a_W_N : Int) (a_Creator_D : Int) (a_Creator_U : Int) (a_Version : Int) (a_Commit : Int) (a_Author_D : Int) (a_Author_U : Int) (a_Sub : Int) (a_Err : Int) (a_Body_z : Bool) (a_Body_f : Bool) (a_Body : List PV) (b_Kind : Int) (b_From : Int) (b_To : Int) (b_W_Host : Int) (b_W_N : Int) (b_Creator_D : Int) (b_Creator_U : Int) (b_Version : Int) (b_Commit : Int) (b_Author_D : Int) (b_Author_U : Int) (b_Sub : Int) (b_Err : Int) (b_Body_z : Bool) (b_Body_f : Bool) (b_Body : List PV) (k : Res → Option Res) : evFn tau F39 Try.f39 (Try.f39.body.get!) (an39 (r39_0 f)) [.ro] 0 [.st 54 [.sc (.int .i64 a_Kind), .sc (.int .i64 a_From), .sc (.int .i64 a_To), .st 34 [.sc (.int .i64 a_W_Host), .sc (.int .i64 a_W_N)], .st 45 [.sc (.int .i64 a_Creator_D), .sc (.int .i64 a_Creator_U)], .sc (.int .i64 a_Version), .sc (.int .i64 a_Commit), .st 45 [.sc (.int .i64 a_Author_D), .sc (.int .i64 a_Author_U)], .sc (.int .i64 a_Sub), .sc (.int .i64 a_Err), .ro 29 a_Body_z a_Body_f a_Body], .st 54 [.sc (.int .i64 b_Kind), .sc (.int .i64 b_From), .sc (.int .i64 b_To), .st 34 [.sc (.int .i64 b_W_Host), .sc (.int .i64 b_W_N)], .st 45 [.sc (.int .i64 b_Creator_D), .sc (.int .i64 b_Creator_U)], .sc (.int .i64 b_Version), .sc (.int .i64 b_Commit), .st 45 [.sc (.int .i64 b_Author_D), .sc (.int .i64 b_Author_U)], .sc (.int .i64 b_Sub), .sc (.int .i64 b_Err), .ro 29 b_Body_z b_Body_f b_Body]] [] k = g39 f a_Kind a_From a_To a_W_Host a_W_N a_Creator_D a_Creator_U a_Version a_Commit a_Author_D a_Author_U a_Sub a_Err a_Body_z a_Body_f a_Body b_Kind b_From b_To b_W_Host b_W_N b_Creator_D b_Creator_U b_Version b_Commit b_Author_D b_Author_U b_Sub b_Err b_Body_z b_Body_f b_Body k := by kernel_rfl
theorem it39 (f : Nat) : items (Try.f39.body.get!) (an39 (r39_0 f)) = [.l c39_0 nm39_0 N39 (r39_0 f)] := by kernel_rfl
theorem ia39 (f : Nat) : ∀ q ∈ items (Try.f39.body.get!) (an39 (r39_0 f)), q.Ok tau Try.prog 0 := by
  rw [it39 f]; simp only [List.forall_mem_cons, List.not_mem_nil, false_implies, implies_true, and_true]; exact i39_0 f
theorem fo39 : Try.prog.funcs[39]? = some Try.f39 := by kernel_rfl
theorem bo39 : Try.f39.body = some (Try.f39.body.get!) := by kernel_rfl
theorem en39 : Enters Try.prog 39 := enters_of fo39 (by kernel_rfl) bo39
end Go.Proofs.Ytcklhipdldpkhaa.Rx

-- FN slices.EqualFunc[[][]byte,[][]byte,[]byte,[]byte] | ref16.Same
/- Messages that are the same. Own work. -/
namespace Go.Proofs.Ytcklhipdldpkhaa.Rx
open Go
set_option linter.unusedVariables false
set_option linter.unusedSimpArgs false
set_option maxRecDepth 100000
set_option maxHeartbeats 1000000
def rOk0 (l : List PV) : Bool := l.all (PV.isRo 5) && (allInt .u8 (flat l) && (l.all (fun p => decide (p.els.length ≤ 65535)) && decide (l.length ≤ 1000)))
noncomputable def rOk : List PV → Bool := hid rOk0
theorem rOk_eq (l : List PV) : rOk l = rOk0 l := by rw [rOk, hid_eq]
theorem rOk_iff {l : List PV} : rOk l = true ↔ l.all (PV.isRo 5) = true ∧ allInt .u8 (flat l) = true ∧ (∀ p ∈ l, p.els.length ≤ 65535) ∧ l.length ≤ 1000 := by
  rw [rOk_eq]; unfold rOk0
  simp only [Bool.and_eq_true, List.all_eq_true, decide_eq_true_eq]
def txs (l : List PV) : List (List UInt8) := l.map fun p => toBytes p.els
theorem txs_length (l : List PV) : (txs l).length = l.length := by simp [txs]
theorem txs_get {l : List PV} {i : Nat} (h : i < l.length) : (txs l)[i]? = some (toBytes (l.getD i .top).els) := by
  simp [txs, List.getD_eq_getElem?_getD, h]
noncomputable def eqR : List PV → List PV → Bool := hid fun a b => decide (txs a = txs b)
theorem eqR_eq (a b : List PV) : eqR a b = decide (txs a = txs b) := by rw [eqR, hid_eq]
theorem flat_els {l : List PV} (h : allInt .u8 (flat l) = true) {i : Nat} (hi : i < l.length) : allInt .u8 (l.getD i .top).els = true := by
  induction l generalizing i with
  | nil => simp at hi
  | cons p ps ih =>
    rw [flat_cons, allInt_append, Bool.and_eq_true] at h
    cases i with
    | zero => exact h.1
    | succ i => simpa using ih h.2 (by simpa using hi)
theorem txs_ext {a b : List PV} (hl : a.length = b.length) (h : ∀ j, j < a.length → toBytes (a.getD j .top).els = toBytes (b.getD j .top).els) : txs a = txs b := by
  apply List.ext_getElem?
  intro j
  by_cases hj : j < a.length
  · rw [txs_get hj, txs_get (by omega), h j hj]
  · rw [List.getElem?_eq_none (by rw [txs_length]; omega), List.getElem?_eq_none (by rw [txs_length]; omega)]
theorem beqB_bytes (x y : List UInt8) : beqB (ByteArray.mk (Array.mk x)) (ByteArray.mk (Array.mk y)) = decide (x = y) := by
  rw [beqB_eq]; apply decide_eq_decide.2
  constructor
  · intro h; injection h with h; injection h
  · rintro rfl; rfl
theorem txs_ne {a b : List PV} {i : Nat} (ha : i < a.length) (hb : i < b.length) (h : toBytes (a.getD i .top).els ≠ toBytes (b.getD i .top).els) : txs a ≠ txs b := by
  intro he
  have := txs_get ha
  rw [he, txs_get hb] at this
  exact h (Option.some.inj this).symm
structure MS where
  (c : C13) (b : List PV)
def eqC (x y : C13) : Bool := (x.kd == y.kd) && (x.fr == y.fr) && (x.to == y.to) && (x.wh == y.wh) && (x.wn == y.wn) && (x.cd == y.cd) && (x.cu == y.cu) && (x.ve == y.ve) && (x.co == y.co) && (x.ad == y.ad) && (x.au == y.au) && (x.su == y.su) && (x.er == y.er)
theorem eqC_iff {x y : C13} : eqC x y = true ↔ x = y := by
  cases x; cases y
  simp only [eqC, Bool.and_eq_true, beq_iff_eq, C13.mk.injEq, and_assoc]
noncomputable def sameM : MS → MS → Bool := hid fun x y => eqC x.c y.c && eqR x.b y.b
theorem sameM_eq (x y : MS) : sameM x y = (eqC x.c y.c && eqR x.b y.b) := by rw [sameM, hid_eq]
theorem sameM_self (x : MS) : sameM x x = true := by rw [sameM_eq, eqC_iff.2 rfl, eqR_eq]; simp
theorem l39_0 (a b : List PV) (ha : a.all (PV.isRo 5) = true) (ha2 : allInt .u8 (flat a) = true) (hb : b.all (PV.isRo 5) = true) (hb2 : allInt .u8 (flat b) = true) (hl : a.length = b.length) (h2 : a.length ≤ 1000) (f : Nat) (k0 : Bool → Option Res) (k1 : Option Res) (R : Option Res) (kd1 fr1 to1 wh1 wn1 cd1 cu1 ve1 co1 ad1 au1 su1 er1 kd2 fr2 to2 wh2 wn2 cd2 cu2 ve2 co2 ad2 au2 su2 er2 : Int) (z1 f1 z2 f2 : Bool)
    (hk0 : txs a ≠ txs b → k0 false = R) (hk1 : txs a = txs b → k1 = R) : ∀ (d i n : Nat), i + d = a.length → d < n → (∀ j, j < i → toBytes (a.getD j .top).els = toBytes (b.getD j .top).els) → lp39_0 f k0 k1 n (i : Int) kd1 fr1 to1 wh1 wn1 cd1 cu1 ve1 co1 ad1 au1 su1 er1 z1 f1 a kd2 fr2 to2 wh2 wn2 cd2 cu2 ve2 co2 ad2 au2 su2 er2 z2 f2 b = R
  | 0, i, n + 1, hi, hn, hp => by
      simp only [lp39_0, lpS39_0]
      exact (bif_f (by simp [zi]; omega)).trans (hk1 (txs_ext hl fun j hj => hp j (by omega)))
  | d + 1, i, n + 1, hi, hn, hp => by
      have g1 : ((i : Int)).toNat = i := by omega
      have w1 : IntKind.i64.wrap ((i : Int) + 1) = ((i + 1 : Nat) : Int) := by rw [wrap_i64 (by omega) (by omega)]; omega
      have hro : ∀ (l : List PV), l.all (PV.isRo 5) = true → i < l.length → (decide (0 ≤ (i : Int)) && decide ((i : Int) < zi l.length) && PV.isRo 5 (l.getD i .top) && true) = true := fun l h hl => by rw [isRo_getD h hl]; simp [zi]; omega
      have hal : ∀ (l : List PV), allInt .u8 (flat l) = true → i < l.length → (allInt .u8 (l.getD i .top).els && true) = true := fun l h hl => by rw [flat_els h hl]; rfl
      simp only [lp39_0, lpS39_0, g1, w1, beqB_bytes]
      refine (bif_t (by simp [zi]; omega)).trans ((bif_t (hro a ha (by omega))).trans ((bif_t (hal a ha2 (by omega))).trans ((bif_t (hro b hb (by omega))).trans ((bif_t (hal b hb2 (by omega))).trans ?_))))
      by_cases hc : toBytes (a.getD i .top).els = toBytes (b.getD i .top).els
      · refine (bif_f (by rw [decide_eq_true hc]; rfl)).trans ?_
        refine l39_0 a b ha ha2 hb hb2 hl h2 f k0 k1 R kd1 fr1 to1 wh1 wn1 cd1 cu1 ve1 co1 ad1 au1 su1 er1 kd2 fr2 to2 wh2 wn2 cd2 cu2 ve2 co2 ad2 au2 su2 er2 z1 f1 z2 f2 hk0 hk1 d (i + 1) n (by omega) (by omega) fun j hj => ?_
        rcases Nat.lt_or_ge j i with h | h
        · exact hp j h
        · obtain rfl : j = i := by omega
          exact hc
      · exact (bif_t (by simp only [Bool.not_eq_true', decide_eq_false_iff_not]; exact hc)).trans (hk0 (txs_ne (by omega) (by omega) hc))
theorem g39_eq (kd1 fr1 to1 wh1 wn1 cd1 cu1 ve1 co1 ad1 au1 su1 er1 : Int) (z1 f1 : Bool) (a : List PV) (kd2 fr2 to2 wh2 wn2 cd2 cu2 ve2 co2 ad2 au2 su2 er2 : Int) (z2 f2 : Bool) (b : List PV) (ha : rOk a = true) (hb : rOk b = true) (k : Res → Option Res) : g39 1010 kd1 fr1 to1 wh1 wn1 cd1 cu1 ve1 co1 ad1 au1 su1 er1 z1 f1 a kd2 fr2 to2 wh2 wn2 cd2 cu2 ve2 co2 ad2 au2 su2 er2 z2 f2 b k = k ⟨.sc (.bool (sameM ⟨⟨kd1, fr1, to1, wh1, wn1, cd1, cu1, ve1, co1, ad1, au1, su1, er1⟩, a⟩ ⟨⟨kd2, fr2, to2, wh2, wn2, cd2, cu2, ve2, co2, ad2, au2, su2, er2⟩, b⟩)), [], []⟩ := by
  obtain ⟨a1, a2, a3, a4⟩ := rOk_iff.1 ha
  obtain ⟨b1, b2, b3, b4⟩ := rOk_iff.1 hb
  unfold g39
  have hsm : sameM ⟨⟨kd1, fr1, to1, wh1, wn1, cd1, cu1, ve1, co1, ad1, au1, su1, er1⟩, a⟩ ⟨⟨kd2, fr2, to2, wh2, wn2, cd2, cu2, ve2, co2, ad2, au2, su2, er2⟩, b⟩ = (eqC ⟨kd1, fr1, to1, wh1, wn1, cd1, cu1, ve1, co1, ad1, au1, su1, er1⟩ ⟨kd2, fr2, to2, wh2, wn2, cd2, cu2, ve2, co2, ad2, au2, su2, er2⟩ && eqR a b) := sameM_eq _ _
  have bad : eqC ⟨kd1, fr1, to1, wh1, wn1, cd1, cu1, ve1, co1, ad1, au1, su1, er1⟩ ⟨kd2, fr2, to2, wh2, wn2, cd2, cu2, ve2, co2, ad2, au2, su2, er2⟩ = false → k ⟨.sc (.bool false), [], []⟩ = k ⟨.sc (.bool (sameM ⟨⟨kd1, fr1, to1, wh1, wn1, cd1, cu1, ve1, co1, ad1, au1, su1, er1⟩, a⟩ ⟨⟨kd2, fr2, to2, wh2, wn2, cd2, cu2, ve2, co2, ad2, au2, su2, er2⟩, b⟩)), [], []⟩ := fun h => by rw [hsm, h]; rfl
  by_cases hkd : ¬ (kd1 = kd2)
  · exact (bif_t (by simpa using hkd)).trans (bad (by simp [eqC, hkd]))
  replace hkd := Decidable.not_not.1 hkd
  refine (bif_f (by simpa using hkd)).trans ?_
  by_cases hfr : ¬ (fr1 = fr2)
  · exact (bif_t (by simpa using hfr)).trans (bad (by simp [eqC, hfr]))
  replace hfr := Decidable.not_not.1 hfr
  refine (bif_f (by simpa using hfr)).trans ?_
  by_cases hto : ¬ (to1 = to2)
  · exact (bif_t (by simpa using hto)).trans (bad (by simp [eqC, hto]))
  replace hto := Decidable.not_not.1 hto
  refine (bif_f (by simpa using hto)).trans ?_
  by_cases hwhwn : ¬ (wh1 = wh2 ∧ wn1 = wn2)
  · refine (bif_t (by simp only [Bool.and_true, Bool.not_eq_true', Bool.and_eq_false_iff, beq_eq_false_iff_ne]; omega)).trans (bad ?_)
    have : (wh1 == wh2 && wn1 == wn2) = false := by simp only [Bool.and_eq_false_iff, beq_eq_false_iff_ne]; omega
    cases hq : eqC ⟨kd1, fr1, to1, wh1, wn1, cd1, cu1, ve1, co1, ad1, au1, su1, er1⟩ ⟨kd2, fr2, to2, wh2, wn2, cd2, cu2, ve2, co2, ad2, au2, su2, er2⟩ with
    | false => rfl
    | true => have := eqC_iff.1 hq; injection this; omega
  replace hwhwn := Decidable.not_not.1 hwhwn
  refine (bif_f (by simp [hwhwn])).trans ?_
  by_cases hcdcu : ¬ (cd1 = cd2 ∧ cu1 = cu2)
  · refine (bif_t (by simp only [Bool.and_true, Bool.not_eq_true', Bool.and_eq_false_iff, beq_eq_false_iff_ne]; omega)).trans (bad ?_)
    have : (cd1 == cd2 && cu1 == cu2) = false := by simp only [Bool.and_eq_false_iff, beq_eq_false_iff_ne]; omega
    cases hq : eqC ⟨kd1, fr1, to1, wh1, wn1, cd1, cu1, ve1, co1, ad1, au1, su1, er1⟩ ⟨kd2, fr2, to2, wh2, wn2, cd2, cu2, ve2, co2, ad2, au2, su2, er2⟩ with
    | false => rfl
    | true => have := eqC_iff.1 hq; injection this; omega
  replace hcdcu := Decidable.not_not.1 hcdcu
  refine (bif_f (by simp [hcdcu])).trans ?_
  by_cases hve : ¬ (ve1 = ve2)
  · exact (bif_t (by simpa using hve)).trans (bad (by simp [eqC, hve]))
  replace hve := Decidable.not_not.1 hve
  refine (bif_f (by simpa using hve)).trans ?_
  by_cases hco : ¬ (co1 = co2)
  · exact (bif_t (by simpa using hco)).trans (bad (by simp [eqC, hco]))
  replace hco := Decidable.not_not.1 hco
  refine (bif_f (by simpa using hco)).trans ?_
  by_cases hadau : ¬ (ad1 = ad2 ∧ au1 = au2)
  · refine (bif_t (by simp only [Bool.and_true, Bool.not_eq_true', Bool.and_eq_false_iff, beq_eq_false_iff_ne]; omega)).trans (bad ?_)
    have : (ad1 == ad2 && au1 == au2) = false := by simp only [Bool.and_eq_false_iff, beq_eq_false_iff_ne]; omega
    cases hq : eqC ⟨kd1, fr1, to1, wh1, wn1, cd1, cu1, ve1, co1, ad1, au1, su1, er1⟩ ⟨kd2, fr2, to2, wh2, wn2, cd2, cu2, ve2, co2, ad2, au2, su2, er2⟩ with
    | false => rfl
    | true => have := eqC_iff.1 hq; injection this; omega
  replace hadau := Decidable.not_not.1 hadau
  refine (bif_f (by simp [hadau])).trans ?_
  by_cases hsu : ¬ (su1 = su2)
  · exact (bif_t (by simpa using hsu)).trans (bad (by simp [eqC, hsu]))
  replace hsu := Decidable.not_not.1 hsu
  refine (bif_f (by simpa using hsu)).trans ?_
  by_cases her : ¬ (er1 = er2)
  · exact (bif_t (by simpa using her)).trans (bad (by simp [eqC, her]))
  replace her := Decidable.not_not.1 her
  refine (bif_f (by simpa using her)).trans ?_
  obtain rfl := hkd
  obtain rfl := hfr
  obtain rfl := hto
  obtain ⟨rfl, rfl⟩ := hwhwn
  obtain ⟨rfl, rfl⟩ := hcdcu
  obtain rfl := hve
  obtain rfl := hco
  obtain ⟨rfl, rfl⟩ := hadau
  obtain rfl := hsu
  obtain rfl := her
  have hcc : eqC ⟨kd1, fr1, to1, wh1, wn1, cd1, cu1, ve1, co1, ad1, au1, su1, er1⟩ ⟨kd1, fr1, to1, wh1, wn1, cd1, cu1, ve1, co1, ad1, au1, su1, er1⟩ = true := eqC_iff.2 rfl
  rw [hcc, Bool.true_and] at hsm
  rw [hsm, eqR_eq]
  by_cases hl : a.length = b.length
  · refine (bif_f (by simp [zi, hl])).trans ?_
    refine l39_0 a b a1 a2 b1 b2 hl a4 1010 _ _ _ kd1 fr1 to1 wh1 wn1 cd1 cu1 ve1 co1 ad1 au1 su1 er1 kd1 fr1 to1 wh1 wn1 cd1 cu1 ve1 co1 ad1 au1 su1 er1 z1 f1 z2 f2 (fun h => ?_) (fun h => ?_) a.length 0 1010 (by omega) (by omega) (fun j hj => absurd hj (by omega))
    · rw [decide_eq_false h]
    · rw [decide_eq_true h]
  · refine (bif_t (by simp only [zi, bne_iff_ne, ne_eq]; omega)).trans ?_
    rw [decide_eq_false (fun h => hl (by rw [← txs_length a, h, txs_length]))]
noncomputable def run39' : List PV → List Ent → (Res → Option Res) → Option Res
  | [.st 54 [.sc (.int .i64 kd1), .sc (.int .i64 fr1), .sc (.int .i64 to1), .st 34 [.sc (.int .i64 wh1), .sc (.int .i64 wn1)], .st 45 [.sc (.int .i64 cd1), .sc (.int .i64 cu1)], .sc (.int .i64 ve1), .sc (.int .i64 co1), .st 45 [.sc (.int .i64 ad1), .sc (.int .i64 au1)], .sc (.int .i64 su1), .sc (.int .i64 er1), .ro 29 z1 f1 a], .st 54 [.sc (.int .i64 kd2), .sc (.int .i64 fr2), .sc (.int .i64 to2), .st 34 [.sc (.int .i64 wh2), .sc (.int .i64 wn2)], .st 45 [.sc (.int .i64 cd2), .sc (.int .i64 cu2)], .sc (.int .i64 ve2), .sc (.int .i64 co2), .st 45 [.sc (.int .i64 ad2), .sc (.int .i64 au2)], .sc (.int .i64 su2), .sc (.int .i64 er2), .ro 29 z2 f2 b]], [], k => bif rOk a && rOk b then k ⟨.sc (.bool (sameM ⟨⟨kd1, fr1, to1, wh1, wn1, cd1, cu1, ve1, co1, ad1, au1, su1, er1⟩, a⟩ ⟨⟨kd2, fr2, to2, wh2, wn2, cd2, cu2, ve2, co2, ad2, au2, su2, er2⟩, b⟩)), [], []⟩ else none
  | _, _, _ => none
noncomputable def s39' : Sig := { own := [], run := run39' }
theorem ok39' : CallOk tau Try.prog 39 s39' := CallOk.mk' fun xs es k res hl hr => by
  change run39' xs es k = some res at hr
  unfold run39' at hr
  split at hr
  · rename_i kd1 fr1 to1 wh1 wn1 cd1 cu1 ve1 co1 ad1 au1 su1 er1 z1 f1 a kd2 fr2 to2 wh2 wn2 cd2 cu2 ve2 co2 ad2 au2 su2 er2 z2 f2 b
    obtain ⟨hc, hr⟩ := of_bif hr
    rw [Bool.and_eq_true] at hc
    have hg := (g39_eq kd1 fr1 to1 wh1 wn1 cd1 cu1 ve1 co1 ad1 au1 su1 er1 z1 f1 a kd2 fr2 to2 wh2 wn2 cd2 cu2 ve2 co2 ad2 au2 su2 er2 z2 f2 b hc.1 hc.2 k).trans hr
    exact fn_at tabOk F39_ok mixed fo39 bo39 (an39 (r39_0 1010)) [.ro] 0 0 (ia39 1010) hl rfl ((e39 1010 kd1 fr1 to1 wh1 wn1 cd1 cu1 ve1 co1 ad1 au1 su1 er1 z1 f1 a kd2 fr2 to2 wh2 wn2 cd2 cu2 ve2 co2 ad2 au2 su2 er2 z2 f2 b k).trans hg)
  · cases hr
end Go.Proofs.Ytcklhipdldpkhaa.Rx

/- What comitia/code.Byte computes. Own work, printed by a program of the worker's own. -/
namespace Go.Proofs.Ytcklhipdldpkhaa.Rx
open Go
set_option linter.unusedVariables false
set_option maxRecDepth 100000
set_option maxHeartbeats 0
noncomputable def F96o : Fns := addF 70 s70' (F0)
theorem F96o_ok : FnsOk tau Try.prog F96o := (F0_ok).add ok70' en70
def an96o : An := (.seq .leaf (.seq .leaf .leaf))
noncomputable def g96o (f : Nat) (b_z : Bool) (b_f : Bool) (b : List PV) (n : Int) (k : Res → Option Res) : Option Res := bif decide ((flat [.ro 5 b_z b_f b, .ro 5 false false [.sc (.int .u8 (IntKind.u8.wrap n))]]).length ≤ 140737488355328) && true then k (Res.mk (.ow 5 16 [] 0 (flat [.ro 5 b_z b_f b, .ro 5 false false [.sc (.int .u8 (IntKind.u8.wrap n))]]).length none) [] [.vec false 5 (flat [.ro 5 b_z b_f b, .ro 5 false false [.sc (.int .u8 (IntKind.u8.wrap n))]]).isEmpty (flat [.ro 5 b_z b_f b, .ro 5 false false [.sc (.int .u8 (IntKind.u8.wrap n))]])]) else none
theorem e96o (f : Nat) (b_z : Bool) (b_f : Bool) (b : List PV) (n : Int) (k : Res → Option Res) : evFn tau F96o Try.f96 (Try.f96.body.get!) an96o [] 0 [.ro 5 b_z b_f b, .sc (.int .i64 n)] [] k = g96o f b_z b_f b n k := by kernel_rfl
theorem it96o (f : Nat) : items (Try.f96.body.get!) an96o = [] := by kernel_rfl
theorem ia96o (f : Nat) : ∀ q ∈ items (Try.f96.body.get!) an96o, q.Ok tau Try.prog 0 := by
  rw [it96o f]; intro q hq; cases hq
theorem fo96o : Try.prog.funcs[96]? = some Try.f96 := by kernel_rfl
theorem bo96o : Try.f96.body = some (Try.f96.body.get!) := by kernel_rfl
end Go.Proofs.Ytcklhipdldpkhaa.Rx

/- What comitia/code.Text computes. Own work, printed by a program of the worker's own. -/
namespace Go.Proofs.Ytcklhipdldpkhaa.Rx
open Go
set_option linter.unusedVariables false
set_option maxRecDepth 100000
set_option maxHeartbeats 0
noncomputable def F98o : Fns := addF 70 s70' (F0)
theorem F98o_ok : FnsOk tau Try.prog F98o := (F0_ok).add ok70' en70
def an98o : An := (.seq .leaf (.seq .leaf (.seq .leaf .leaf)))
noncomputable def g98o (f : Nat) (b_z : Bool) (b_f : Bool) (b : List PV) (s : ByteArray) (k : Res → Option Res) : Option Res := bif decide (0 ≤ minI (zi s.size) 65535) && true && decide ((minI (zi s.size) 65535).toNat ≤ s.size) && true then bif roomy (s.extract 0 (minI (zi s.size) 65535).toNat).size 1 && true then bif decide ((flat [.ro 5 b_z b_f b, .ro 5 false false [.sc (.int .u8 (IntKind.u8.wrap (zi (s.extract 0 (minI (zi s.size) 65535).toNat).size))), .sc (.int .u8 (IntKind.u8.wrap (shrI IntKind.i64 (zi (s.extract 0 (minI (zi s.size) 65535).toNat).size) 8)))], .ro 5 false false (List.take (s.extract 0 (minI (zi s.size) 65535).toNat).size (ofBytes (s.extract 0 (minI (zi s.size) 65535).toNat)))]).length ≤ 140737488355328) && true then k (Res.mk (.ow 5 16 [] 0 (flat [.ro 5 b_z b_f b, .ro 5 false false [.sc (.int .u8 (IntKind.u8.wrap (zi (s.extract 0 (minI (zi s.size) 65535).toNat).size))), .sc (.int .u8 (IntKind.u8.wrap (shrI IntKind.i64 (zi (s.extract 0 (minI (zi s.size) 65535).toNat).size) 8)))], .ro 5 false false (List.take (s.extract 0 (minI (zi s.size) 65535).toNat).size (ofBytes (s.extract 0 (minI (zi s.size) 65535).toNat)))]).length none) [] [.vec false 5 (flat [.ro 5 b_z b_f b, .ro 5 false false [.sc (.int .u8 (IntKind.u8.wrap (zi (s.extract 0 (minI (zi s.size) 65535).toNat).size))), .sc (.int .u8 (IntKind.u8.wrap (shrI IntKind.i64 (zi (s.extract 0 (minI (zi s.size) 65535).toNat).size) 8)))], .ro 5 false false (List.take (s.extract 0 (minI (zi s.size) 65535).toNat).size (ofBytes (s.extract 0 (minI (zi s.size) 65535).toNat)))]).isEmpty (flat [.ro 5 b_z b_f b, .ro 5 false false [.sc (.int .u8 (IntKind.u8.wrap (zi (s.extract 0 (minI (zi s.size) 65535).toNat).size))), .sc (.int .u8 (IntKind.u8.wrap (shrI IntKind.i64 (zi (s.extract 0 (minI (zi s.size) 65535).toNat).size) 8)))], .ro 5 false false (List.take (s.extract 0 (minI (zi s.size) 65535).toNat).size (ofBytes (s.extract 0 (minI (zi s.size) 65535).toNat)))])]) else none else none else none
theorem e98o (f : Nat) (b_z : Bool) (b_f : Bool) (b : List PV) (s : ByteArray) (k : Res → Option Res) : evFn tau F98o Try.f98 (Try.f98.body.get!) an98o [] 0 [.ro 5 b_z b_f b, .sc (.string s)] [] k = g98o f b_z b_f b s k := by kernel_rfl
theorem it98o (f : Nat) : items (Try.f98.body.get!) an98o = [] := by kernel_rfl
theorem ia98o (f : Nat) : ∀ q ∈ items (Try.f98.body.get!) an98o, q.Ok tau Try.prog 0 := by
  rw [it98o f]; intro q hq; cases hq
theorem fo98o : Try.prog.funcs[98]? = some Try.f98 := by kernel_rfl
theorem bo98o : Try.f98.body = some (Try.f98.body.get!) := by kernel_rfl
end Go.Proofs.Ytcklhipdldpkhaa.Rx

/- Bytes are written, into rows of one's own. Own work. -/
namespace Go.Proofs.Ytcklhipdldpkhaa.Rx
open Go
set_option linter.unusedVariables false
set_option linter.unusedSimpArgs false
set_option maxRecDepth 100000
set_option maxHeartbeats 1000000
noncomputable def run96o : List PV → List Ent → (Res → Option Res) → Option Res
  | [.ro 5 z f b, .sc (.int .i64 n)], [], k => bif slB z b then k ⟨.ow 5 16 [] 0 (b.length + 1) none, [], [.vec false 5 false (b ++ pu .u8 [IntKind.u8.wrap n])]⟩ else none
  | _, _, _ => none
noncomputable def s96o : Sig := { own := [], run := run96o }
theorem ok96o : CallOk tau Try.prog 96 s96o := CallOk.mk' fun xs es k res hl hr => by
  change run96o xs es k = some res at hr
  unfold run96o at hr
  split at hr
  · rename_i z f b n
    obtain ⟨hc, hr⟩ := of_bif hr
    obtain ⟨h1, h2⟩ := slB_iff.1 hc
    have hg : g96o 0 z f b n k = some res := by
      have hf : flat [PV.ro 5 z f b, PV.ro 5 false false [PV.sc (Value.int IntKind.u8 (IntKind.u8.wrap n))]] = b ++ pu .u8 [IntKind.u8.wrap n] := by simp [PV.els, pu]
      have hf2 : flat [PV.ro 5 z f b, PV.ro 5 false true [PV.sc (Value.int IntKind.u8 (IntKind.u8.wrap n))]] = b ++ pu .u8 [IntKind.u8.wrap n] := by simp [PV.els, pu]
      have he : (b ++ pu .u8 [IntKind.u8.wrap n]).isEmpty = false := by simp
      have hlen : (b ++ pu .u8 [IntKind.u8.wrap n]).length = b.length + 1 := by simp
      unfold g96o
      simp only [hf, hf2, List.take_length, List.drop_zero, List.take_succ_cons, List.take_zero, he, hlen, Ent.nil]
      rw [bif_t (by simp; omega)]
      exact hr
    exact fn_at tabOk F96o_ok mixed fo96o bo96o an96o [] 0 0 (ia96o 0) hl rfl ((e96o 0 z f b n k).trans hg)
  · cases hr
noncomputable def run98o : List PV → List Ent → (Res → Option Res) → Option Res
  | [.ro 5 z f b, .sc (.string s)], [], k => bif slB z b && Nat.ble s.size 65535 then k ⟨.ow 5 16 [] 0 (b.length + (s.size + 2)) none, [], [.vec false 5 false (b ++ pu .u8 (textB s))]⟩ else none
  | _, _, _ => none
noncomputable def s98o : Sig := { own := [], run := run98o }
theorem ok98o : CallOk tau Try.prog 98 s98o := CallOk.mk' fun xs es k res hl hr => by
  change run98o xs es k = some res at hr
  unfold run98o at hr
  split at hr
  · rename_i z f b s
    obtain ⟨hc, hr⟩ := of_bif hr
    rw [Bool.and_eq_true, Nat.ble_eq] at hc
    obtain ⟨h1, h2⟩ := slB_iff.1 hc.1
    have hg : g98o 0 z f b s k = some res := by
      have hm : minI (zi s.size) 65535 = (s.size : Int) := by unfold minI; rw [if_neg (by simp only [zi]; omega)]
      unfold g98o
      simp only [hm, Int.toNat_natCast, extract_all]
      have hf : ∀ x y : Bool, flat [PV.ro 5 z f b, PV.ro 5 false x [PV.sc (Value.int IntKind.u8 (IntKind.u8.wrap (zi s.size))), PV.sc (Value.int IntKind.u8 (IntKind.u8.wrap (shrI IntKind.i64 (zi s.size) 8)))], PV.ro 5 false y (List.take s.size (ofBytes s))] = b ++ pu .u8 (textB s) := by
        intro x y
        rw [ofBytes_pu, List.take_of_length_le (by simp), textB_eq, textB0]
        simp [PV.els, pu]
      have he : (b ++ pu .u8 (textB s)).isEmpty = false := by
        rw [textB_eq, textB0]; simp
      have hlen : (b ++ pu .u8 (textB s)).length = b.length + (s.size + 2) := by simp
      simp only [hf, List.take_length, List.drop_zero, List.take_succ_cons, List.take_zero, he, hlen, Ent.nil]
      rw [bif_t (by simp), bif_t (by simp [roomy]; omega), bif_t (by simp; omega)]
      exact hr
    exact fn_at tabOk F98o_ok mixed fo98o bo98o an98o [] 0 0 (ia98o 0) hl rfl ((e98o 0 z f b s k).trans hg)
  · cases hr
end Go.Proofs.Ytcklhipdldpkhaa.Rx

/- Bytes are written: the same rules, that stand still while their arguments are unknown. Own work. -/
namespace Go.Proofs.Ytcklhipdldpkhaa.Rx
open Go
set_option linter.unusedVariables false
set_option linter.unusedSimpArgs false
set_option maxRecDepth 100000
noncomputable def apI : List PV → Int → List PV := hid fun b n => b ++ pu .u8 (intB n)
noncomputable def apY : List PV → Int → List PV := hid fun b n => b ++ pu .u8 [IntKind.u8.wrap n]
noncomputable def apT : List PV → ByteArray → List PV := hid fun b s => b ++ pu .u8 (textB s)
noncomputable def okZ : Bool → List PV → Bool := hid slB
theorem apI_eq (b : List PV) (n : Int) : apI b n = b ++ pu .u8 (intB n) := by rw [apI, hid_eq]
theorem apY_eq (b : List PV) (n : Int) : apY b n = b ++ pu .u8 [IntKind.u8.wrap n] := by rw [apY, hid_eq]
theorem apT_eq (b : List PV) (s : ByteArray) : apT b s = b ++ pu .u8 (textB s) := by rw [apT, hid_eq]
theorem okZ_eq (z : Bool) (b : List PV) : okZ z b = slB z b := by rw [okZ, hid_eq]
noncomputable def run97h : List PV → List Ent → (Res → Option Res) → Option Res
  | [.ro 5 z f b, .sc (.int .i64 n)], [], k => bif okZ z b then k ⟨.ro 5 false false (apI b n), [], []⟩ else none
  | _, _, _ => none
noncomputable def s97h : Sig := { own := [], run := run97h }
theorem ok97h : CallOk tau Try.prog 97 s97h := fun xs es k res hl hr => ok97' xs es k res hl (by
  change run97h xs es k = some res at hr
  show run97' xs es k = some res
  unfold run97h at hr
  split at hr
  · rw [okZ_eq, apI_eq] at hr; exact hr
  · cases hr)
noncomputable def run96h : List PV → List Ent → (Res → Option Res) → Option Res
  | [.ro 5 z f b, .sc (.int .i64 n)], [], k => bif okZ z b then k ⟨.ow 5 16 [] 0 (apY b n).length none, [], [.vec false 5 false (apY b n)]⟩ else none
  | _, _, _ => none
noncomputable def s96h : Sig := { own := [], run := run96h }
theorem ok96h : CallOk tau Try.prog 96 s96h := fun xs es k res hl hr => ok96o xs es k res hl (by
  change run96h xs es k = some res at hr
  show run96o xs es k = some res
  unfold run96h at hr
  split at hr
  · rename_i z f b n
    rw [okZ_eq, apY_eq, show (b ++ pu .u8 [IntKind.u8.wrap n]).length = b.length + 1 by simp] at hr; exact hr
  · cases hr)
noncomputable def run98h : List PV → List Ent → (Res → Option Res) → Option Res
  | [.ro 5 z f b, .sc (.string s)], [], k => bif okZ z b && Nat.ble s.size 65535 then k ⟨.ow 5 16 [] 0 (apT b s).length none, [], [.vec false 5 false (apT b s)]⟩ else none
  | _, _, _ => none
noncomputable def s98h : Sig := { own := [], run := run98h }
theorem ok98h : CallOk tau Try.prog 98 s98h := fun xs es k res hl hr => ok98o xs es k res hl (by
  change run98h xs es k = some res at hr
  show run98o xs es k = some res
  unfold run98h at hr
  split at hr
  · rename_i z f b s
    rw [okZ_eq, apT_eq, show (b ++ pu .u8 (textB s)).length = b.length + (s.size + 2) by simp] at hr; exact hr
  · cases hr)
end Go.Proofs.Ytcklhipdldpkhaa.Rx

/- What comitia/wire.Bytes computes. Own work, printed by a program of the worker's own. -/
namespace Go.Proofs.Ytcklhipdldpkhaa.Rx
open Go
set_option linter.unusedVariables false
set_option maxRecDepth 100000
set_option maxHeartbeats 0
def N41 : Nat := 53
noncomputable def F41 : Fns := addF 98 s98h (addF 97 s97h (addF 96 s96h (addF 93 s93 (addF 81 s81' (addF 80 s80' (F0))))))
theorem F41_ok : FnsOk tau Try.prog F41 := ((((((F0_ok).add ok80' en80).add ok81' en81).add ok93 en93).add ok96h en96).add ok97h en97).add ok98h en98
def nm41_0 : Nm := [(2, .any), (3, .any), (5, .any), (14, .any), (15, .any), (16, .any)]
def x41_0 : An := (.seq .leaf (.seq (.cond .leaf .leaf) (.seq (.block none (.seq .leaf .leaf)) .leaf)))
noncomputable def c41_1 : Code := subC (Try.f41.body.get!) [1, 1, 1, 1, 0, 1, 0, 0]
def nm41_1 : Nm := [(2, .any), (3, .any), (5, .own), (32, .any), (33, .any), (34, .any)]
def nx41_1 : Nm := [(2, .any), (3, .any), (5, .any)]
def x41_1 : An := (.seq .leaf (.seq (.cond .leaf .leaf) (.seq (.block none (.seq .leaf .leaf)) .leaf)))
def an41 (r1 : RunL) : An := (.seq .leaf (.seq .leaf (.seq (.seq .leaf (.block none (.loop nm41_0 x41_0))) (.seq .leaf (.seq (.seq .leaf (.block none (.sum nm41_1 N41 r1))) (.seq .leaf (.seq .leaf .leaf)))))))
noncomputable def lpS41_1 (f : Nat) (rc : Nat → Bool → Bool → List PV → Int → Int → Bool → Bool → List PV → Bool → Bool → List PV → Bool → Bool → List PV → Int → Int → Int → Int → Int → Int → Int → Int → Int → Int → Int → Int → Int → Bool → Bool → List PV → List PV → Option Res) (k0 : Nat → Bool → Bool → List PV → Bool → Bool → List PV → Bool → Bool → List PV → Int → Int → Int → Int → Int → Int → Int → Int → Int → Int → Int → Int → Int → Bool → Bool → List PV → List PV → Option Res) (v0 : Nat) (v1 : Bool) (v2 : Bool) (v3 : List PV) (v4 : Int) (v5 : Int) (v6 : Bool) (v7 : Bool) (v8 : List PV) (v9 : Bool) (v10 : Bool) (v11 : List PV) (v12 : Bool) (v13 : Bool) (v14 : List PV) (v15 : Int) (v16 : Int) (v17 : Int) (v18 : Int) (v19 : Int) (v20 : Int) (v21 : Int) (v22 : Int) (v23 : Int) (v24 : Int) (v25 : Int) (v26 : Int) (v27 : Int) (v28 : Bool) (v29 : Bool) (v30 : List PV) (v31 : List PV) : Option Res := bif decide (v5 < v4) then bif decide (0 ≤ v5) && decide (v5 < zi v3.length) && PV.isRo 5 (v3.getD v5.toNat PV.top) && true then bif allInt IntKind.u8 (v3.getD v5.toNat PV.top).els && true then bif okZ false (List.take v0 v31) && (ByteArray.mk (Array.mk (toBytes ((v3.getD v5.toNat PV.top).nl, (v3.getD v5.toNat PV.top).els).snd))).size.ble 65535 then rc ((apT (List.take v0 v31) (ByteArray.mk (Array.mk (toBytes ((v3.getD v5.toNat PV.top).nl, (v3.getD v5.toNat PV.top).els).snd)))).length) v1 v2 v3 v4 (IntKind.i64.wrap (v5 + 1)) v6 v7 v8 v9 v10 v11 v12 v13 v14 v15 v16 v17 v18 v19 v20 v21 v22 v23 v24 v25 v26 v27 v28 v29 v30 (apT (List.take v0 v31) (ByteArray.mk (Array.mk (toBytes ((v3.getD v5.toNat PV.top).nl, (v3.getD v5.toNat PV.top).els).snd)))) else none else none else none else k0 v0 v6 v7 v8 v9 v10 v11 v12 v13 v14 v15 v16 v17 v18 v19 v20 v21 v22 v23 v24 v25 v26 v27 v28 v29 v30 v31
noncomputable def lp41_1 (f : Nat) (k0 : Nat → Bool → Bool → List
  PV → Bool → Bool → List
  PV → Bool → Bool → List
  PV → Int → Int → Int → Int → Int → Int → Int → Int → Int → Int → Int → Int → Int → Bool → Bool → List
  PV → List
  PV → Option Res) : Nat → Nat → Bool → Bool → List
  PV → Int → Int → Bool → Bool → List
  PV → Bool → Bool → List PV → Bool → Bool → List PV → Int → Int → Int → Int → Int → Int → Int → Int → Int → Int → Int → Int → Int → Bool → Bool → List PV → List PV → Option Res
  | 0, _, _, _, _, _, _, _, _, _, _, _, _, _, _, _, _, _, _, _, _, _, _, _, _, _, _, _, _, _, _, _, _ => none
  | n + 1, v0, v1, v2, v3, v4, v5, v6, v7, v8, v9, v10, v11, v12, v13, v14, v15, v16, v17, v18, v19, v20, v21, v22, v23, v24, v25, v26, v27, v28, v29, v30, v31 => lpS41_1 f (lp41_1 f k0 n) k0 v0 v1 v2 v3 v4 v5 v6 v7 v8 v9 v10 v11 v12 v13 v14 v15 v16 v17 v18 v19 v20 v21 v22 v23 v24 v25 v26 v27 v28 v29 v30 v31
theorem lpR41_1 (f : Nat) (k : Kont) (n : Nat) (v0 : Nat) (v1 : Bool) (v2 : Bool) (v3 : List PV) (v4 : Int) (v5 : Int) (v6 : Bool) (v7 : Bool) (v8 : List PV) (v9 : Bool) (v10 : Bool) (v11 : List PV) (v12 : Bool) (v13 : Bool) (v14 : List PV) (v15 : Int) (v16 : Int) (v17 : Int) (v18 : Int) (v19 : Int) (v20 : Int) (v21 : Int) (v22 : Int) (v23 : Int) (v24 : Int) (v25 : Int) (v26 : Int) (v27 : Int) (v28 : Bool) (v29 : Bool) (v30 : List PV) (v31 : List PV) : evLoop tau 0 nm41_1 (fun s k => ev tau F41 0 0 c41_1 (x41_1 ) s k) (n + 1) (fillS nm41_1 N41 [.ptr 864 [], .ptr 865 [], .ow 5 866 [] 0 v0 none, .ro 29 v1 v2 v3, .sc (.int .i64 v4), .sc (.int .i64 v5)] [(864, .box false 31 (PV.st 31 [.ro 5 v6 v7 v8, .ro 5 v9 v10 v11, .ro 5 v12 v13 v14])), (865, .box false 54 (PV.st 54 [.sc (.int .i64 v15), .sc (.int .i64 v16), .sc (.int .i64 v17), .st 34 [.sc (.int .i64 v18), .sc (.int .i64 v19)], .st 45 [.sc (.int .i64 v20), .sc (.int .i64 v21)], .sc (.int .i64 v22), .sc (.int .i64 v23), .st 45 [.sc (.int .i64 v24), .sc (.int .i64 v25)], .sc (.int .i64 v26), .sc (.int .i64 v27), .ro 29 v28 v29 v30])), (866, .vec false 5 false v31)]) (kNorm tau 0 nx41_1 k) = lpS41_1 f (fun v0 v1 v2 v3 v4 v5 v6 v7 v8 v9 v10 v11 v12 v13 v14 v15 v16 v17 v18 v19 v20 v21 v22 v23 v24 v25 v26 v27 v28 v29 v30 v31 => evLoop tau 0 nm41_1 (fun s k => ev tau F41 0 0 c41_1 (x41_1 ) s k) n (fillS nm41_1 N41 [.ptr 864 [], .ptr 865 [], .ow 5 866 [] 0 v0 none, .ro 29 v1 v2 v3, .sc (.int .i64 v4), .sc (.int .i64 v5)] [(864, .box false 31 (PV.st 31 [.ro 5 v6 v7 v8, .ro 5 v9 v10 v11, .ro 5 v12 v13 v14])), (865, .box false 54 (PV.st 54 [.sc (.int .i64 v15), .sc (.int .i64 v16), .sc (.int .i64 v17), .st 34 [.sc (.int .i64 v18), .sc (.int .i64 v19)], .st 45 [.sc (.int .i64 v20), .sc (.int .i64 v21)], .sc (.int .i64 v22), .sc (.int .i64 v23), .st 45 [.sc (.int .i64 v24), .sc (.int .i64 v25)], .sc (.int .i64 v26), .sc (.int .i64 v27), .ro 29 v28 v29 v30])), (866, .vec false 5 false v31)]) (kNorm tau 0 nx41_1 k)) (fun x0 x1 x2 x3 x4 x5 x6 x7 x8 x9 x10 x11 x12 x13 x14 x15 x16 x17 x18 x19 x20 x21 x22 x23 x24 x25 x26 => k (Ex.exit 2) (fillS nx41_1 N41 [.ptr 864 [], .ptr 865 [], .ow 5 866 [] 0 x0 none] [(864, .box false 31 (PV.st 31 [.ro 5 x1 x2 x3, .ro 5 x4 x5 x6, .ro 5 x7 x8 x9])), (865, .box false 54 (PV.st 54 [.sc (.int .i64 x10), .sc (.int .i64 x11), .sc (.int .i64 x12), .st 34 [.sc (.int .i64 x13), .sc (.int .i64 x14)], .st 45 [.sc (.int .i64 x15), .sc (.int .i64 x16)], .sc (.int .i64 x17), .sc (.int .i64 x18), .st 45 [.sc (.int .i64 x19), .sc (.int .i64 x20)], .sc (.int .i64 x21), .sc (.int .i64 x22), .ro 29 x23 x24 x25])), (866, .vec false 5 false x26)])) v0 v1 v2 v3 v4 v5 v6 v7 v8 v9 v10 v11 v12 v13 v14 v15 v16 v17 v18 v19 v20 v21 v22 v23 v24 v25 v26 v27 v28 v29 v30 v31 := by kernel_rfl
theorem lpE41_1 (f : Nat) (k : Kont) : ∀ (n : Nat) (v0 : Nat) (v1 : Bool) (v2 : Bool) (v3 : List PV) (v4 : Int) (v5 : Int) (v6 : Bool) (v7 : Bool) (v8 : List PV) (v9 : Bool) (v10 : Bool) (v11 : List PV) (v12 : Bool) (v13 : Bool) (v14 : List PV) (v15 : Int) (v16 : Int) (v17 : Int) (v18 : Int) (v19 : Int) (v20 : Int) (v21 : Int) (v22 : Int) (v23 : Int) (v24 : Int) (v25 : Int) (v26 : Int) (v27 : Int) (v28 : Bool) (v29 : Bool) (v30 : List PV) (v31 : List PV), evLoop tau 0 nm41_1 (fun s k => ev tau F41 0 0 c41_1 (x41_1 ) s k) n (fillS nm41_1 N41 [.ptr 864 [], .ptr 865 [], .ow 5 866 [] 0 v0 none, .ro 29 v1 v2 v3, .sc (.int .i64 v4), .sc (.int .i64 v5)] [(864, .box false 31 (PV.st 31 [.ro 5 v6 v7 v8, .ro 5 v9 v10 v11, .ro 5 v12 v13 v14])), (865, .box false 54 (PV.st 54 [.sc (.int .i64 v15), .sc (.int .i64 v16), .sc (.int .i64 v17), .st 34 [.sc (.int .i64 v18), .sc (.int .i64 v19)], .st 45 [.sc (.int .i64 v20), .sc (.int .i64 v21)], .sc (.int .i64 v22), .sc (.int .i64 v23), .st 45 [.sc (.int .i64 v24), .sc (.int .i64 v25)], .sc (.int .i64 v26), .sc (.int .i64 v27), .ro 29 v28 v29 v30])), (866, .vec false 5 false v31)]) (kNorm tau 0 nx41_1 k) = lp41_1 f (fun x0 x1 x2 x3 x4 x5 x6 x7 x8 x9 x10 x11 x12 x13 x14 x15 x16 x17 x18 x19 x20 x21 x22 x23 x24 x25 x26 => k (Ex.exit 2) (fillS nx41_1 N41 [.ptr 864 [], .ptr 865 [], .ow 5 866 [] 0 x0 none] [(864, .box false 31 (PV.st 31 [.ro 5 x1 x2 x3, .ro 5 x4 x5 x6, .ro 5 x7 x8 x9])), (865, .box false 54 (PV.st 54 [.sc (.int .i64 x10), .sc (.int .i64 x11), .sc (.int .i64 x12), .st 34 [.sc (.int .i64 x13), .sc (.int .i64 x14)], .st 45 [.sc (.int .i64 x15), .sc (.int .i64 x16)], .sc (.int .i64 x17), .sc (.int .i64 x18), .st 45 [.sc (.int .i64 x19), .sc (.int .i64 x20)], .sc (.int .i64 x21), .sc (.int .i64 x22), .ro 29 x23 x24 x25])), (866, .vec false 5 false x26)])) n v0 v1 v2 v3 v4 v5 v6 v7 v8 v9 v10 v11 v12 v13 v14 v15 v16 v17 v18 v19 v20 v21 v22 v23 v24 v25 v26 v27 v28 v29 v30 v31 | 0, _, _, _, _, _, _, _, _, _, _, _, _, _, _, _, _, _, _, _, _, _, _, _, _, _, _, _, _, _, _, _, _ => rfl | n + 1, v0, v1, v2, v3, v4, v5, v6, v7, v8, v9, v10, v11, v12, v13, v14, v15, v16, v17, v18, v19, v20, v21, v22, v23, v24, v25, v26, v27, v28, v29, v30, v31 => (lpR41_1 f k n v0 v1 v2 v3 v4 v5 v6 v7 v8 v9 v10 v11 v12 v13 v14 v15 v16 v17 v18 v19 v20 v21 v22 v23 v24 v25 v26 v27 v28 v29 v30 v31).trans (congrArg (fun r => lpS41_1 f r (fun x0 x1 x2 x3 x4 x5 x6 x7 x8 x9 x10 x11 x12 x13 x14 x15 x16 x17 x18 x19 x20 x21 x22 x23 x24 x25 x26 => k (Ex.exit 2) (fillS nx41_1 N41 [.ptr 864 [], .ptr 865 [], .ow 5 866 [] 0 x0 none] [(864, .box false 31 (PV.st 31 [.ro 5 x1 x2 x3, .ro 5 x4 x5 x6, .ro 5 x7 x8 x9])), (865, .box false 54 (PV.st 54 [.sc (.int .i64 x10), .sc (.int .i64 x11), .sc (.int .i64 x12), .st 34 [.sc (.int .i64 x13), .sc (.int .i64 x14)], .st 45 [.sc (.int .i64 x15), .sc (.int .i64 x16)], .sc (.int .i64 x17), .sc (.int .i64 x18), .st 45 [.sc (.int .i64 x19), .sc (.int .i64 x20)], .sc (.int .i64 x21), .sc (.int .i64 x22), .ro 29 x23 x24 x25])), (866, .vec false 5 false x26)])) v0 v1 v2 v3 v4 v5 v6 v7 v8 v9 v10 v11 v12 v13 v14 v15 v16 v17 v18 v19 v20 v21 v22 v23 v24 v25 v26 v27 v28 v29 v30 v31) (by funext v0 v1 v2 v3 v4 v5 v6 v7 v8 v9 v10 v11 v12 v13 v14 v15 v16 v17 v18 v19 v20 v21 v22 v23 v24 v25 v26 v27 v28 v29 v30 v31; exact lpE41_1 f k n v0 v1 v2 v3 v4 v5 v6 v7 v8 v9 v10 v11 v12 v13 v14 v15 v16 v17 v18 v19 v20 v21 v22 v23 v24 v25 v26 v27 v28 v29 v30 v31))
noncomputable def r41_1 (f : Nat) : List PV → List (Nat × Ent) → Kont → Option Res
  | [.ptr 864 [], .ptr 865 [], .ow 5 866 [] 0 v0 none, .ro 29 v1 v2 v3, .sc (.int .i64 v4),
  PV.sc
    (Value.int IntKind.i64
      v5)], [(864, .box false 31 (PV.st 31 [.ro 5 v6 v7 v8, .ro 5 v9 v10 v11, .ro 5 v12 v13 v14])),
  (865,
    Ent.box false 54
      (PV.st 54
        [.sc (.int .i64 v15), .sc (.int .i64 v16), .sc (.int .i64 v17), .st 34 [.sc (.int .i64 v18), .sc (.int .i64 v19)],
          PV.st 45 [.sc (.int .i64 v20), .sc (.int .i64 v21)], .sc (.int .i64 v22), .sc (.int .i64 v23),
          PV.st 45 [.sc (.int .i64 v24), .sc (.int .i64 v25)], .sc (.int .i64 v26), .sc (.int .i64 v27), .ro 29 v28 v29 v30])),
  (866,
    Ent.vec false 5 false
      v31)], k => lp41_1 f (fun x0 x1 x2 x3 x4 x5 x6 x7 x8 x9 x10 x11 x12 x13 x14 x15 x16 x17 x18 x19 x20 x21 x22 x23 x24 x25 x26 => k (Ex.exit
  2) (fillS nx41_1 N41 [.ptr 864 [], .ptr 865 [],
  PV.ow 5 866 [] 0 x0
    none] [(864, .box false 31 (PV.st 31 [.ro 5 x1 x2 x3, .ro 5 x4 x5 x6, .ro 5 x7 x8 x9])),
  (865,
    Ent.box false 54
      (PV.st 54
        [.sc (.int .i64 x10), .sc (.int .i64 x11), .sc (.int .i64 x12), .st 34 [.sc (.int .i64 x13), .sc (.int .i64 x14)],
          PV.st 45 [.sc (.int .i64 x15), .sc (.int .i64 x16)], .sc (.int .i64 x17), .sc (.int .i64 x18),
          PV.st 45 [.sc (.int .i64 x19), .sc (.int .i64 x20)], .sc (.int .i64 x21), .sc (.int .i64 x22), .ro 29 x23 x24 x25])),
  (866, .vec false 5 false x26)])) f v0 v1 v2 v3 v4 v5 v6 v7 v8 v9 v10 v11 v12 v13 v14 v15 v16 v17 v18 v19 v20 v21 v22 v23 v24 v25 v26 v27 v28 v29 v30 v31
  | _, _, _ => none
theorem it41_1 (f : Nat) : items c41_1 x41_1 = [] := by kernel_rfl
theorem i41_1 (f : Nat) : (Item.l c41_1 nm41_1 N41 (r41_1 f)).Ok tau Try.prog 0 := loop_item tabOk F41_ok mixed (x := x41_1) (nm2 := nx41_1) (anOk_items _ _ (by rw [it41_1 f]; intro q hq; cases hq)) fun vs hp k res hr => by
  unfold r41_1 at hr
  split at hr
  · exact ⟨f, 0, (lpE41_1 f _ f _ _ _ _ _ _ _ _ _ _ _ _ _ _ _ _ _ _ _ _ _ _ _ _ _ _ _ _ _ _ _ _ ).trans hr⟩
  · cases hr
noncomputable def g41 (f : Nat) (k0_z : Bool) (k0_f : Bool) (k0 : List PV) (k1_z : Bool) (k1_f : Bool) (k1 : List PV) (k2_z : Bool) (k2_f : Bool) (k2 : List PV) (m_Kind : Int) (m_From : Int) (m_To : Int) (m_W_Host : Int) (m_W_N : Int) (m_Creator_D : Int) (m_Creator_U : Int) (m_Version : Int) (m_Commit : Int) (m_Author_D : Int) (m_Author_U : Int) (m_Sub : Int) (m_Err : Int) (m_Body_z : Bool) (m_Body_f : Bool) (m_Body : List PV) (k : Res → Option Res) : Option Res := bif okZ true [] then bif okZ false (List.take (apY [] m_Kind).length (apY [] m_Kind)) then bif okZ false (apI (List.take (apY [] m_Kind).length (apY [] m_Kind)) m_From) then bif okZ false (apI (apI (List.take (apY [] m_Kind).length (apY [] m_Kind)) m_From) m_To) then bif okZ false (apI (apI (apI (List.take (apY [] m_Kind).length (apY [] m_Kind)) m_From) m_To) m_W_Host) then bif okZ false (apI (apI (apI (apI (List.take (apY [] m_Kind).length (apY [] m_Kind)) m_From) m_To) m_W_Host) m_W_N) then bif okZ false (apI (apI (apI (apI (apI (List.take (apY [] m_Kind).length (apY [] m_Kind)) m_From) m_To) m_W_Host) m_W_N) m_Creator_D) then bif okZ false (apI (apI (apI (apI (apI (apI (List.take (apY [] m_Kind).length (apY [] m_Kind)) m_From) m_To) m_W_Host) m_W_N) m_Creator_D) m_Creator_U) then bif okZ false (apI (apI (apI (apI (apI (apI (apI (List.take (apY [] m_Kind).length (apY [] m_Kind)) m_From) m_To) m_W_Host) m_W_N) m_Creator_D) m_Creator_U) m_Version) then bif okZ false (apI (apI (apI (apI (apI (apI (apI (apI (List.take (apY [] m_Kind).length (apY [] m_Kind)) m_From) m_To) m_W_Host) m_W_N) m_Creator_D) m_Creator_U) m_Version) m_Commit) then bif okZ false (apI (apI (apI (apI (apI (apI (apI (apI (apI (List.take (apY [] m_Kind).length (apY [] m_Kind)) m_From) m_To) m_W_Host) m_W_N) m_Creator_D) m_Creator_U) m_Version) m_Commit) m_Author_D) then bif okZ false (apI (apI (apI (apI (apI (apI (apI (apI (apI (apI (List.take (apY [] m_Kind).length (apY [] m_Kind)) m_From) m_To) m_W_Host) m_W_N) m_Creator_D) m_Creator_U) m_Version) m_Commit) m_Author_D) m_Author_U) then bif okZ false (apI (apI (apI (apI (apI (apI (apI (apI (apI (apI (apI (List.take (apY [] m_Kind).length (apY [] m_Kind)) m_From) m_To) m_W_Host) m_W_N) m_Creator_D) m_Creator_U) m_Version) m_Commit) m_Author_D) m_Author_U) m_Sub) then bif okZ false (apI (apI (apI (apI (apI (apI (apI (apI (apI (apI (apI (apI (List.take (apY [] m_Kind).length (apY [] m_Kind)) m_From) m_To) m_W_Host) m_W_N) m_Creator_D) m_Creator_U) m_Version) m_Commit) m_Author_D) m_Author_U) m_Sub) m_Err) then lp41_1 f (fun x0_0 x1_0 x2_0 x3_0 x4_0 x5_0 x6_0 x7_0 x8_0 x9_0 x10_0 x11_0 x12_0 x13_0 x14_0 x15_0 x16_0 x17_0 x18_0 x19_0 x20_0 x21_0 x22_0 x23_0 x24_0 x25_0 x26_0 => bif allInt IntKind.u8 (keyF (K3.mk [.ro 5 x1_0 x2_0 x3_0, .ro 5 x4_0 x5_0 x6_0, .ro 5 x7_0 x8_0 x9_0] x11_0)) && decide ((keyF (K3.mk [.ro 5 x1_0 x2_0 x3_0, .ro 5 x4_0 x5_0 x6_0, .ro 5 x7_0 x8_0 x9_0] x11_0)).length ≤ 1000000000) && (allInt IntKind.u8 (flat [.ro 5 false false (List.take x0_0 x26_0)]) && decide ((flat [.ro 5 false false (List.take x0_0 x26_0)]).length ≤ 1000000000)) && true then bif roomy (x0_0 + (List.take 32 (pu IntKind.u8 (macP (ints (keyF (K3.mk [.ro 5 x1_0 x2_0 x3_0, .ro 5 x4_0 x5_0 x6_0, .ro 5 x7_0 x8_0 x9_0] x11_0))) (ints (flat [.ro 5 false false (List.take x0_0 x26_0)]))))).length) 1 && true then k (Res.mk (.ow 5 16 [] 0 (x0_0 + (List.take 32 (pu IntKind.u8 (macP (ints (keyF (K3.mk [.ro 5 x1_0 x2_0 x3_0, .ro 5 x4_0 x5_0 x6_0, .ro 5 x7_0 x8_0 x9_0] x11_0))) (ints (flat [.ro 5 false false (List.take x0_0 x26_0)]))))).length) none) [] [.vec false 5 false (List.take x0_0 x26_0 ++ List.take 32 (pu IntKind.u8 (macP (ints (keyF (K3.mk [.ro 5 x1_0 x2_0 x3_0, .ro 5 x4_0 x5_0 x6_0, .ro 5 x7_0 x8_0 x9_0] x11_0))) (ints (flat [.ro 5 false false (List.take x0_0 x26_0)])))))]) else none else none) f ((apY (apI (apI (apI (apI (apI (apI (apI (apI (apI (apI (apI (apI (List.take (apY [] m_Kind).length (apY [] m_Kind)) m_From) m_To) m_W_Host) m_W_N) m_Creator_D) m_Creator_U) m_Version) m_Commit) m_Author_D) m_Author_U) m_Sub) m_Err) (zi m_Body.length)).length) m_Body_z m_Body_f m_Body (zi m_Body.length) (0) k0_z k0_f k0 k1_z k1_f k1 k2_z k2_f k2 m_Kind m_From m_To m_W_Host m_W_N m_Creator_D m_Creator_U m_Version m_Commit m_Author_D m_Author_U m_Sub m_Err m_Body_z m_Body_f m_Body (apY (apI (apI (apI (apI (apI (apI (apI (apI (apI (apI (apI (apI (List.take (apY [] m_Kind).length (apY [] m_Kind)) m_From) m_To) m_W_Host) m_W_N) m_Creator_D) m_Creator_U) m_Version) m_Commit) m_Author_D) m_Author_U) m_Sub) m_Err) (zi m_Body.length)) else none else none else none else none else none else none else none else none else none else none else none else none else none else none
theorem e41 (f : Nat) (k0_z : Bool) (k0_f : Bool) (k0 : List PV) (k1_z : Bool) (k1_f : Bool) (k1 : List PV) (k2_z : Bool) (k2_f : Bool) (k2 : List PV) (m_Kind : Int) (m_From : Int) (m_To : Int) (m_W_Host : Int) (m_W_N : Int) (m_Creator_D : Int) (m_Creator_U : Int) (m_Version : Int) (m_Commit : Int) (m_Author_D : Int) (m_Author_U : Int) (m_Sub : Int) (m_Err : Int) (m_Body_z : Bool) (m_Body_f : Bool) (m_Body : List PV) (k : Res → Option Res) : evFn tau F41 Try.f41 (Try.f41.body.get!) (an41 (r41_1 f)) [] 13 [.st 31 [.ro 5 k0_z k0_f k0, .ro 5 k1_z k1_f k1, .ro 5 k2_z k2_f k2], .st 54 [.sc (.int .i64 m_Kind), .sc (.int .i64 m_From), .sc (.int .i64 m_To), .st 34 [.sc (.int .i64 m_W_Host), .sc (.int .i64 m_W_N)], .st 45 [.sc (.int .i64 m_Creator_D), .sc (.int .i64 m_Creator_U)], .sc (.int .i64 m_Version), .sc (.int .i64 m_Commit), .st 45 [.sc (.int .i64 m_Author_D), .sc (.int .i64 m_Author_U)], .sc (.int .i64 m_Sub), .sc (.int .i64 m_Err), .ro 29 m_Body_z m_Body_f m_Body]] [] k = g41 f k0_z k0_f k0 k1_z k1_f k1 k2_z k2_f k2 m_Kind m_From m_To m_W_Host m_W_N m_Creator_D m_Creator_U m_Version m_Commit m_Author_D m_Author_U m_Sub m_Err m_Body_z m_Body_f m_Body k := by kernel_rfl
theorem it41 (f : Nat) : items (Try.f41.body.get!) (an41 (r41_1 f)) = [.l c41_1 nm41_1 N41 (r41_1 f)] := by kernel_rfl
theorem ia41 (f : Nat) : ∀ q ∈ items (Try.f41.body.get!) (an41 (r41_1 f)), q.Ok tau Try.prog 0 := by
  rw [it41 f]; simp only [List.forall_mem_cons, List.not_mem_nil, false_implies, implies_true, and_true]; exact i41_1 f
theorem fo41 : Try.prog.funcs[41]? = some Try.f41 := by kernel_rfl
theorem bo41 : Try.f41.body = some (Try.f41.body.get!) := by kernel_rfl
theorem en41 : Enters Try.prog 41 := enters_of fo41 (by kernel_rfl) bo41
end Go.Proofs.Ytcklhipdldpkhaa.Rx

-- FN wire.Bytes
/- A message is written. Own work. -/
namespace Go.Proofs.Ytcklhipdldpkhaa.Rx
open Go
set_option linter.unusedVariables false
set_option linter.unusedSimpArgs false
set_option maxRecDepth 100000
set_option maxHeartbeats 1000000
structure WM where
  (l : List PV) (c : C13) (b : List PV)
def numsOf (c : C13) : List Int := [c.fr, c.to, c.wh, c.wn, c.cd, c.cu, c.ve, c.co, c.ad, c.au, c.su, c.er]
def txB (p : PV) : ByteArray := ByteArray.mk (Array.mk (toBytes p.els))
theorem txB_size (p : PV) : (txB p).size = p.els.length := toBytes_len p.els
noncomputable def wB0 (w : WM) : List Int := msgB w.c.kd (numsOf w.c) (w.b.map txB)
noncomputable def wB : WM → List Int := hid fun w => wB0 w ++ macP (ints (keyF ⟨w.l, w.c.fr⟩)) (wB0 w)
theorem wB_eq (w : WM) : wB w = wB0 w ++ macP (ints (keyF ⟨w.l, w.c.fr⟩)) (wB0 w) := by rw [wB, hid_eq]
theorem textsB_len (m : Nat) : ∀ l : List ByteArray, (∀ t ∈ l, t.size ≤ m) → (textsB l).length ≤ l.length * (m + 2)
  | [], _ => by simp [textsB]
  | t :: l, h => by
      have h1 := h t List.mem_cons_self
      have h2 := textsB_len m l fun x hx => h x (List.mem_cons_of_mem _ hx)
      simp only [textsB, List.flatMap_cons, List.length_append, textB_length, List.length_cons, Nat.add_mul] at h2 ⊢
      omega
theorem wB0_length (w : WM) : (wB0 w).length = 98 + (textsB (w.b.map txB)).length := by
  simp only [wB0, msgB, List.length_append, List.length_cons, List.length_nil, numsB_length, numsOf]; omega
theorem txs_small {m : Nat} {b : List PV} (h : ∀ p ∈ b, p.els.length ≤ m) : ∀ t ∈ b.map txB, t.size ≤ m := by
  intro t ht
  obtain ⟨p, hp, rfl⟩ := List.mem_map.1 ht
  rw [txB_size]; exact h p hp
theorem wB0_small {w : WM} (h : rOk w.b = true) : (wB0 w).length ≤ 65537098 := by
  obtain ⟨_, _, h3, h4⟩ := rOk_iff.1 h
  have := textsB_len 65535 (w.b.map txB) (txs_small h3)
  rw [List.length_map] at this
  have h5 : w.b.length * 65537 ≤ 1000 * 65537 := Nat.mul_le_mul_right _ h4
  rw [wB0_length]; omega
theorem wB_length (w : WM) : (wB w).length = (wB0 w).length + 32 := by rw [wB_eq, List.length_append, macP_length]
theorem wB_by (w : WM) : ∀ x ∈ wB0 w, 0 ≤ x ∧ x < 256 := msgB_by _ _ _
theorem okZ_t {l : List PV} (h : l.length ≤ 1000000000) : okZ false l = true := by rw [okZ_eq]; exact slB_iff.2 ⟨fun h => (by cases h), h⟩
theorem l41_1 (f : Nat) (k0 : Nat → Bool → Bool → List PV → Bool → Bool → List PV → Bool → Bool → List PV → Int → Int → Int → Int → Int → Int → Int → Int → Int → Int → Int → Int → Int → Bool → Bool → List PV → List PV → Option Res) (b : List PV) (h1 : b.all (PV.isRo 5) = true) (h2 : allInt .u8 (flat b) = true) (h3 : ∀ p ∈ b, p.els.length ≤ 65535) (h4 : b.length ≤ 1000)
    {z fl za fa za1 fa1 za2 fa2 zb fb : Bool} {ka kc ke bb : List PV} {kd fr to wh wn cd cu ve co ad au su er : Int} : ∀ (d i n : Nat) (L : List PV), i + d = b.length → d < n → L.length ≤ 1000 + i * 65537 →
    lp41_1 f k0 n L.length z fl b (zi b.length) (i : Int) za fa ka za1 fa1 kc za2 fa2 ke kd fr to wh wn cd cu ve co ad au su er zb fb bb L = k0 (L ++ pu .u8 (textsB ((b.drop i).map txB))).length za fa ka za1 fa1 kc za2 fa2 ke kd fr to wh wn cd cu ve co ad au su er zb fb bb (L ++ pu .u8 (textsB ((b.drop i).map txB)))
  | 0, i, n + 1, L, hi, hn, hL => by
      rw [List.drop_of_length_le (by omega)]
      simp only [lp41_1, lpS41_1, List.map_nil, textsB, List.flatMap_nil, pu_nil, List.append_nil]
      exact bif_f (by simp [zi]; omega)
  | d + 1, i, n + 1, L, hi, hn, hL => by
      have g1 : ((i : Int)).toNat = i := by omega
      have w1 : IntKind.i64.wrap ((i : Int) + 1) = ((i + 1 : Nat) : Int) := by rw [wrap_i64 (by omega) (by omega)]; omega
      have hd : b.drop i = b.getD i .top :: b.drop (i + 1) := by
        rw [List.drop_eq_getElem_cons (by omega)]; simp [List.getD_eq_getElem?_getD, show i < b.length by omega]
      have hmem : b.getD i .top ∈ b := by rw [List.getD_eq_getElem?_getD, List.getElem?_eq_getElem (by omega)]; exact List.getElem_mem (by omega)
      have hsz := h3 _ hmem
      have hi2 : i * 65537 ≤ 999 * 65537 := Nat.mul_le_mul_right _ (by omega)
      have ht : ByteArray.mk (Array.mk (toBytes ((b.getD i .top).nl, (b.getD i .top).els).snd)) = txB (b.getD i .top) := rfl
      have hap : apT L (txB (b.getD i .top)) = L ++ pu .u8 (textB (txB (b.getD i .top))) := apT_eq _ _
      simp only [lp41_1, lpS41_1, g1, w1, ht, List.take_length]
      refine (bif_t (by simp [zi]; omega)).trans ((bif_t (by rw [isRo_getD h1 (by omega)]; simp [zi]; omega)).trans ((bif_t (by rw [flat_els h2 (by omega)]; rfl)).trans ((bif_t (by rw [okZ_t (by omega), txB_size, Bool.true_and, Nat.ble_eq]; exact hsz)).trans ?_)))
      have ih := l41_1 f k0 b h1 h2 h3 h4 (z := z) (fl := fl) (za := za) (fa := fa) (za1 := za1) (fa1 := fa1) (za2 := za2) (fa2 := fa2) (zb := zb) (fb := fb) (ka := ka) (kc := kc) (ke := ke) (bb := bb) (kd := kd) (fr := fr) (to := to) (wh := wh) (wn := wn) (cd := cd) (cu := cu) (ve := ve) (co := co) (ad := ad) (au := au) (su := su) (er := er) d (i + 1) n (apT L (txB (b.getD i .top))) (by omega) (by omega) (by rw [hap, List.length_append, pu_length, textB_length, txB_size]; omega)
      refine ih.trans ?_
      rw [hd, hap]
      simp only [List.map_cons, textsB, List.flatMap_cons, pu_append, List.append_assoc]
noncomputable def run41' : List PV → List Ent → (Res → Option Res) → Option Res
  | [.st 31 [.ro 5 z0 f0 k0, .ro 5 z1 f1 k1, .ro 5 z2 f2 k2], .st 54 [.sc (.int .i64 kd), .sc (.int .i64 fr), .sc (.int .i64 to), .st 34 [.sc (.int .i64 wh), .sc (.int .i64 wn)], .st 45 [.sc (.int .i64 cd), .sc (.int .i64 cu)], .sc (.int .i64 ve), .sc (.int .i64 co), .st 45 [.sc (.int .i64 ad), .sc (.int .i64 au)], .sc (.int .i64 su), .sc (.int .i64 er), .ro 29 z f b]], [], k => bif rOk b && (kOk k0 && (kOk k1 && kOk k2)) then k ⟨.ow 5 16 [] 0 (wB ⟨[.ro 5 z0 f0 k0, .ro 5 z1 f1 k1, .ro 5 z2 f2 k2], ⟨kd, fr, to, wh, wn, cd, cu, ve, co, ad, au, su, er⟩, b⟩).length none, [], [.vec false 5 false (pu .u8 (wB ⟨[.ro 5 z0 f0 k0, .ro 5 z1 f1 k1, .ro 5 z2 f2 k2], ⟨kd, fr, to, wh, wn, cd, cu, ve, co, ad, au, su, er⟩, b⟩))]⟩ else none
  | _, _, _ => none
noncomputable def s41' : Sig := { own := [], run := run41' }
theorem wB0_parts (w : WM) : pu .u8 (wB0 w) = apY (apI (apI (apI (apI (apI (apI (apI (apI (apI (apI (apI (apI (apY [] w.c.kd) w.c.fr) w.c.to) w.c.wh) w.c.wn) w.c.cd) w.c.cu) w.c.ve) w.c.co) w.c.ad) w.c.au) w.c.su) w.c.er) (zi w.b.length) ++ pu .u8 (textsB (w.b.map txB)) := by
  simp only [apI_eq, apY_eq, wB0, msgB, numsOf, numsB, List.flatMap_cons, List.flatMap_nil, List.append_nil, List.nil_append, pu_append, List.append_assoc, List.length_map, zi]
theorem g41_eq (z0 f0 z1 f1 z2 f2 z f : Bool) (k0 k1 k2 b : List PV) (kd fr to wh wn cd cu ve co ad au su er : Int) (hb : rOk b = true) (h0 : kOk k0 = true) (h1 : kOk k1 = true) (h2 : kOk k2 = true) (k : Res → Option Res) :
    g41 1010 z0 f0 k0 z1 f1 k1 z2 f2 k2 kd fr to wh wn cd cu ve co ad au su er z f b k = k ⟨.ow 5 16 [] 0 (wB ⟨[.ro 5 z0 f0 k0, .ro 5 z1 f1 k1, .ro 5 z2 f2 k2], ⟨kd, fr, to, wh, wn, cd, cu, ve, co, ad, au, su, er⟩, b⟩).length none, [], [.vec false 5 false (pu .u8 (wB ⟨[.ro 5 z0 f0 k0, .ro 5 z1 f1 k1, .ro 5 z2 f2 k2], ⟨kd, fr, to, wh, wn, cd, cu, ve, co, ad, au, su, er⟩, b⟩))]⟩ := by
  obtain ⟨b1, b2, b3, b4⟩ := rOk_iff.1 hb
  have hsm := wB0_small (w := ⟨[.ro 5 z0 f0 k0, .ro 5 z1 f1 k1, .ro 5 z2 f2 k2], ⟨kd, fr, to, wh, wn, cd, cu, ve, co, ad, au, su, er⟩, b⟩) hb
  have hp := wB0_parts ⟨[.ro 5 z0 f0 k0, .ro 5 z1 f1 k1, .ro 5 z2 f2 k2], ⟨kd, fr, to, wh, wn, cd, cu, ve, co, ad, au, su, er⟩, b⟩
  unfold g41
  simp only [List.take_length]
  refine (bif_t (by rw [okZ_eq]; rfl)).trans ?_
  have ly : ∀ (l : List PV) (n : Int), (apY l n).length = l.length + 1 := fun l n => by rw [apY_eq]; simp
  have li : ∀ (l : List PV) (n : Int), (apI l n).length = l.length + 8 := fun l n => by rw [apI_eq]; simp
  iterate 13 (refine (bif_t (okZ_t (by simp only [li, ly, List.length_nil]; omega))).trans ?_)
  refine (l41_1 1010 _ b b1 b2 b3 b4 b.length 0 1010 _ (by omega) (by omega) (by simp only [li, ly, List.length_nil]; omega)).trans ?_
  rw [List.drop_zero]
  rw [show (apY (apI (apI (apI (apI (apI (apI (apI (apI (apI (apI (apI (apI (apY [] kd) fr) to) wh) wn) cd) cu) ve) co) ad) au) su) er) (zi b.length)) ++ pu .u8 (textsB (b.map txB)) = pu .u8 (wB0 ⟨[.ro 5 z0 f0 k0, .ro 5 z1 f1 k1, .ro 5 z2 f2 k2], ⟨kd, fr, to, wh, wn, cd, cu, ve, co, ad, au, su, er⟩, b⟩) from hp.symm]
  have hkf := keyF_ok (z0 := z0) (f0 := f0) (z1 := z1) (f1 := f1) (z2 := z2) (f2 := f2) h0 h1 h2 fr
  unfold kOk at hkf
  rw [Bool.and_eq_true, decide_eq_true_eq] at hkf
  have e2 : List.take 32 (pu .u8 (macP (ints (keyF ⟨[.ro 5 z0 f0 k0, .ro 5 z1 f1 k1, .ro 5 z2 f2 k2], fr⟩)) (wB0 ⟨[.ro 5 z0 f0 k0, .ro 5 z1 f1 k1, .ro 5 z2 f2 k2], ⟨kd, fr, to, wh, wn, cd, cu, ve, co, ad, au, su, er⟩, b⟩))) = pu .u8 (macP (ints (keyF ⟨[.ro 5 z0 f0 k0, .ro 5 z1 f1 k1, .ro 5 z2 f2 k2], fr⟩)) (wB0 ⟨[.ro 5 z0 f0 k0, .ro 5 z1 f1 k1, .ro 5 z2 f2 k2], ⟨kd, fr, to, wh, wn, cd, cu, ve, co, ad, au, su, er⟩, b⟩)) := List.take_of_length_le (by rw [pu_length, macP_length]; exact Nat.le_refl _)
  have hL := wB_length ⟨[.ro 5 z0 f0 k0, .ro 5 z1 f1 k1, .ro 5 z2 f2 k2], ⟨kd, fr, to, wh, wn, cd, cu, ve, co, ad, au, su, er⟩, b⟩
  have htk : List.take (wB0 ⟨[.ro 5 z0 f0 k0, .ro 5 z1 f1 k1, .ro 5 z2 f2 k2], ⟨kd, fr, to, wh, wn, cd, cu, ve, co, ad, au, su, er⟩, b⟩).length (pu .u8 (wB0 ⟨[.ro 5 z0 f0 k0, .ro 5 z1 f1 k1, .ro 5 z2 f2 k2], ⟨kd, fr, to, wh, wn, cd, cu, ve, co, ad, au, su, er⟩, b⟩)) = pu .u8 (wB0 ⟨[.ro 5 z0 f0 k0, .ro 5 z1 f1 k1, .ro 5 z2 f2 k2], ⟨kd, fr, to, wh, wn, cd, cu, ve, co, ad, au, su, er⟩, b⟩) := List.take_of_length_le (by simp)
  simp only [htk, flat_one, ints_pu, allInt_pu, e2, pu_length, macP_length]
  refine (bif_t (by rw [hkf.1]; simp; omega)).trans ((bif_t (by simp only [roomy, Nat.mul_one, Bool.and_true, decide_eq_true_eq]; omega)).trans ?_)
  rw [hL, ← pu_append, ← wB_eq ⟨[.ro 5 z0 f0 k0, .ro 5 z1 f1 k1, .ro 5 z2 f2 k2], ⟨kd, fr, to, wh, wn, cd, cu, ve, co, ad, au, su, er⟩, b⟩]
theorem ok41' : CallOk tau Try.prog 41 s41' := CallOk.mk' fun xs es k res hl hr => by
  change run41' xs es k = some res at hr
  unfold run41' at hr
  split at hr
  · rename_i z0 f0 k0 z1 f1 k1 z2 f2 k2 kd fr to wh wn cd cu ve co ad au su er z f b
    obtain ⟨hc, hr⟩ := of_bif hr
    simp only [Bool.and_eq_true] at hc
    have hg := (g41_eq z0 f0 z1 f1 z2 f2 z f k0 k1 k2 b kd fr to wh wn cd cu ve co ad au su er hc.1 hc.2.1 hc.2.2.1 hc.2.2.2 k).trans hr
    exact fn_at tabOk F41_ok mixed fo41 bo41 (an41 (r41_1 1010)) [] 0 13 (ia41 1010) hl rfl ((e41 1010 z0 f0 k0 z1 f1 k1 z2 f2 k2 kd fr to wh wn cd cu ve co ad au su er z f b k).trans hg)
  · cases hr
end Go.Proofs.Ytcklhipdldpkhaa.Rx

/- What comitia/comitialaw16.WireKeys computes. Own work, printed by a program of the worker's own. -/
namespace Go.Proofs.Ytcklhipdldpkhaa.Rx
open Go
set_option linter.unusedVariables false
set_option maxRecDepth 100000
set_option maxHeartbeats 0
noncomputable def F9 : Fns := addF 41 s41' (addF 39 s39' (addF 38 s38' (addF 37 s37' (addF 33 s33' (addF 32 s32' (addF 31 s31' (addF 21 s21' (F0))))))))
theorem F9_ok : FnsOk tau Try.prog F9 := ((((((((F0_ok).add ok21' en21).add ok31' en31).add ok32' en32).add ok33' en33).add ok37' en37).add ok38' en38).add ok39' en39).add ok41' en41
def an9 : An := (.seq .leaf (.seq (.seq .leaf (.cond (.seq .leaf .leaf) .leaf)) (.seq (.seq .leaf (.cond (.seq .leaf .leaf) .leaf)) (.seq .leaf (.seq .leaf (.seq .leaf (.seq .leaf (.seq .leaf (.seq .leaf .leaf)))))))))
noncomputable abbrev q9_1 (m_Kind : Int) (m_From : Int) (m_To : Int) (m_W_Host : Int) (m_W_N : Int) (m_Creator_D : Int) (m_Creator_U : Int) (m_Version : Int) (m_Commit : Int) (m_Author_D : Int) (m_Author_U : Int) (m_Sub : Int) (m_Err : Int) (m_Body : List PV) (key : List PV) := (wB (WM.mk [.ro 5 false false (kb 0 (List.take (1 + key.length) (.sc (.int .u8 121) :: id key))), .ro 5 false false (kb 1 (List.take (1 + key.length) (.sc (.int .u8 121) :: id key))), .ro 5 false false (kb 2 (List.take (1 + key.length) (.sc (.int .u8 121) :: id key)))] (gcOf (C13.mk m_Kind m_From m_To m_W_Host m_W_N m_Creator_D m_Creator_U m_Version m_Commit m_Author_D m_Author_U m_Sub m_Err)) (gB m_Body)))
noncomputable abbrev q9_0 (m_Kind : Int) (m_From : Int) (m_To : Int) (m_W_Host : Int) (m_W_N : Int) (m_Creator_D : Int) (m_Creator_U : Int) (m_Version : Int) (m_Commit : Int) (m_Author_D : Int) (m_Author_U : Int) (m_Sub : Int) (m_Err : Int) (m_Body : List PV) (key : List PV) := (PA.mk [.ro 5 false false (kb 0 []), .ro 5 false false (kb 1 []), .ro 5 false false (kb 2 [])] (List.take (q9_1 m_Kind m_From m_To m_W_Host m_W_N m_Creator_D m_Creator_U m_Version m_Commit m_Author_D m_Author_U m_Sub m_Err m_Body key).length (pu IntKind.u8 (q9_1 m_Kind m_From m_To m_W_Host m_W_N m_Creator_D m_Creator_U m_Version m_Commit m_Author_D m_Author_U m_Sub m_Err m_Body key))))
noncomputable abbrev q9_2 (m_Kind : Int) (m_From : Int) (m_To : Int) (m_W_Host : Int) (m_W_N : Int) (m_Creator_D : Int) (m_Creator_U : Int) (m_Version : Int) (m_Commit : Int) (m_Author_D : Int) (m_Author_U : Int) (m_Sub : Int) (m_Err : Int) (m_Body : List PV) (key : List PV) := (MS.mk (C13.mk (pfld 0 (q9_0 m_Kind m_From m_To m_W_Host m_W_N m_Creator_D m_Creator_U m_Version m_Commit m_Author_D m_Author_U m_Sub m_Err m_Body key)) (pfld 1 (q9_0 m_Kind m_From m_To m_W_Host m_W_N m_Creator_D m_Creator_U m_Version m_Commit m_Author_D m_Author_U m_Sub m_Err m_Body key)) (pfld 2 (q9_0 m_Kind m_From m_To m_W_Host m_W_N m_Creator_D m_Creator_U m_Version m_Commit m_Author_D m_Author_U m_Sub m_Err m_Body key)) (pfld 3 (q9_0 m_Kind m_From m_To m_W_Host m_W_N m_Creator_D m_Creator_U m_Version m_Commit m_Author_D m_Author_U m_Sub m_Err m_Body key)) (pfld 4 (q9_0 m_Kind m_From m_To m_W_Host m_W_N m_Creator_D m_Creator_U m_Version m_Commit m_Author_D m_Author_U m_Sub m_Err m_Body key)) (pfld 5 (q9_0 m_Kind m_From m_To m_W_Host m_W_N m_Creator_D m_Creator_U m_Version m_Commit m_Author_D m_Author_U m_Sub m_Err m_Body key)) (pfld 6 (q9_0 m_Kind m_From m_To m_W_Host m_W_N m_Creator_D m_Creator_U m_Version m_Commit m_Author_D m_Author_U m_Sub m_Err m_Body key)) (pfld 7 (q9_0 m_Kind m_From m_To m_W_Host m_W_N m_Creator_D m_Creator_U m_Version m_Commit m_Author_D m_Author_U m_Sub m_Err m_Body key)) (pfld 8 (q9_0 m_Kind m_From m_To m_W_Host m_W_N m_Creator_D m_Creator_U m_Version m_Commit m_Author_D m_Author_U m_Sub m_Err m_Body key)) (pfld 9 (q9_0 m_Kind m_From m_To m_W_Host m_W_N m_Creator_D m_Creator_U m_Version m_Commit m_Author_D m_Author_U m_Sub m_Err m_Body key)) (pfld 10 (q9_0 m_Kind m_From m_To m_W_Host m_W_N m_Creator_D m_Creator_U m_Version m_Commit m_Author_D m_Author_U m_Sub m_Err m_Body key)) (pfld 11 (q9_0 m_Kind m_From m_To m_W_Host m_W_N m_Creator_D m_Creator_U m_Version m_Commit m_Author_D m_Author_U m_Sub m_Err m_Body key)) (pfld 12 (q9_0 m_Kind m_From m_To m_W_Host m_W_N m_Creator_D m_Creator_U m_Version m_Commit m_Author_D m_Author_U m_Sub m_Err m_Body key))) (pbod (q9_0 m_Kind m_From m_To m_W_Host m_W_N m_Creator_D m_Creator_U m_Version m_Commit m_Author_D m_Author_U m_Sub m_Err m_Body key)))
noncomputable def g9 (f : Nat) (m_Kind : Int) (m_From : Int) (m_To : Int) (m_W_Host : Int) (m_W_N : Int) (m_Creator_D : Int) (m_Creator_U : Int) (m_Version : Int) (m_Commit : Int) (m_Author_D : Int) (m_Author_U : Int) (m_Sub : Int) (m_Err : Int) (m_Body_z : Bool) (m_Body_f : Bool) (m_Body : List PV) (key_z : Bool) (key_f : Bool) (key : List PV) (k : Res → Option Res) : Option Res := bif m_Body.all (PV.isRo 5) && m_Body.length.ble 9223372036854775807 then bif !fewB m_Body then k (Res.mk (.sc (.bool true)) [] []) else bif roomy (1 + key.length) 1 && true then bif rOk (gB m_Body) && (kOk (kb 0 (List.take (1 + key.length) (.sc (.int .u8 121) :: id key))) && (kOk (kb 1 (List.take (1 + key.length) (.sc (.int .u8 121) :: id key))) && kOk (kb 2 (List.take (1 + key.length) (.sc (.int .u8 121) :: id key))))) then bif slB (Ent.vec false 5 false (pu IntKind.u8 (q9_1 m_Kind m_From m_To m_W_Host m_W_N m_Creator_D m_Creator_U m_Version m_Commit m_Author_D m_Author_U m_Sub m_Err m_Body key))).nil (List.take (q9_1 m_Kind m_From m_To m_W_Host m_W_N m_Creator_D m_Creator_U m_Version m_Commit m_Author_D m_Author_U m_Sub m_Err m_Body key).length (List.drop 0 (pu IntKind.u8 (q9_1 m_Kind m_From m_To m_W_Host m_W_N m_Creator_D m_Creator_U m_Version m_Commit m_Author_D m_Author_U m_Sub m_Err m_Body key)))) && byB (List.take (q9_1 m_Kind m_From m_To m_W_Host m_W_N m_Creator_D m_Creator_U m_Version m_Commit m_Author_D m_Author_U m_Sub m_Err m_Body key).length (pu IntKind.u8 (q9_1 m_Kind m_From m_To m_W_Host m_W_N m_Creator_D m_Creator_U m_Version m_Commit m_Author_D m_Author_U m_Sub m_Err m_Body key))) && (kOk (kb 0 []) && (kOk (kb 1 []) && kOk (kb 2 []))) then bif byB (List.take (q9_1 m_Kind m_From m_To m_W_Host m_W_N m_Creator_D m_Creator_U m_Version m_Commit m_Author_D m_Author_U m_Sub m_Err m_Body key).length (pu IntKind.u8 (q9_1 m_Kind m_From m_To m_W_Host m_W_N m_Creator_D m_Creator_U m_Version m_Commit m_Author_D m_Author_U m_Sub m_Err m_Body key))) && (kOk (kb 0 []) && (kOk (kb 1 []) && kOk (kb 2 []))) then bif parE (q9_0 m_Kind m_From m_To m_W_Host m_W_N m_Creator_D m_Creator_U m_Version m_Commit m_Author_D m_Author_U m_Sub m_Err m_Body key) == parE (q9_0 m_Kind m_From m_To m_W_Host m_W_N m_Creator_D m_Creator_U m_Version m_Commit m_Author_D m_Author_U m_Sub m_Err m_Body key) then bif rOk (pbod (q9_0 m_Kind m_From m_To m_W_Host m_W_N m_Creator_D m_Creator_U m_Version m_Commit m_Author_D m_Author_U m_Sub m_Err m_Body key)) && rOk (pbod (q9_0 m_Kind m_From m_To m_W_Host m_W_N m_Creator_D m_Creator_U m_Version m_Commit m_Author_D m_Author_U m_Sub m_Err m_Body key)) then bif sameM (q9_2 m_Kind m_From m_To m_W_Host m_W_N m_Creator_D m_Creator_U m_Version m_Commit m_Author_D m_Author_U m_Sub m_Err m_Body key) (q9_2 m_Kind m_From m_To m_W_Host m_W_N m_Creator_D m_Creator_U m_Version m_Commit m_Author_D m_Author_U m_Sub m_Err m_Body key) then bif parE (q9_0 m_Kind m_From m_To m_W_Host m_W_N m_Creator_D m_Creator_U m_Version m_Commit m_Author_D m_Author_U m_Sub m_Err m_Body key) == 14 then k (Res.mk (.sc (.bool true)) [] []) else k (Res.mk (.sc (.bool (parE (q9_0 m_Kind m_From m_To m_W_Host m_W_N m_Creator_D m_Creator_U m_Version m_Commit m_Author_D m_Author_U m_Sub m_Err m_Body key) == 0))) [] []) else none else none else none else none else none else none else none else none
theorem e9 (f : Nat) (m_Kind : Int) (m_From : Int) (m_To : Int) (m_W_Host : Int) (m_W_N : Int) (m_Creator_D : Int) (m_Creator_U : Int) (m_Version : Int) (m_Commit : Int) (m_Author_D : Int) (m_Author_U : Int) (m_Sub : Int) (m_Err : Int) (m_Body_z : Bool) (m_Body_f : Bool) (m_Body : List PV) (key_z : Bool) (key_f : Bool) (key : List PV) (k : Res → Option Res) : evFn tau F9 Try.f9 (Try.f9.body.get!) an9 [.ro] 0 [.st 54 [.sc (.int .i64 m_Kind), .sc (.int .i64 m_From), .sc (.int .i64 m_To), .st 34 [.sc (.int .i64 m_W_Host), .sc (.int .i64 m_W_N)], .st 45 [.sc (.int .i64 m_Creator_D), .sc (.int .i64 m_Creator_U)], .sc (.int .i64 m_Version), .sc (.int .i64 m_Commit), .st 45 [.sc (.int .i64 m_Author_D), .sc (.int .i64 m_Author_U)], .sc (.int .i64 m_Sub), .sc (.int .i64 m_Err), .ro 29 m_Body_z m_Body_f m_Body], .ro 5 key_z key_f key] [] k = g9 f m_Kind m_From m_To m_W_Host m_W_N m_Creator_D m_Creator_U m_Version m_Commit m_Author_D m_Author_U m_Sub m_Err m_Body_z m_Body_f m_Body key_z key_f key k := by kernel_rfl
theorem it9 (f : Nat) : items (Try.f9.body.get!) an9 = [] := by kernel_rfl
theorem ia9 (f : Nat) : ∀ q ∈ items (Try.f9.body.get!) an9, q.Ok tau Try.prog 0 := by
  rw [it9 f]; intro q hq; cases hq
theorem fo9 : Try.prog.funcs[9]? = some Try.f9 := by kernel_rfl
theorem bo9 : Try.f9.body = some (Try.f9.body.get!) := by kernel_rfl
end Go.Proofs.Ytcklhipdldpkhaa.Rx

/- What its type says of a message that is handed in. Own work. -/
namespace Go.Proofs.Ytcklhipdldpkhaa.Rx
open Go
set_option linter.unusedVariables false
set_option linter.unusedSimpArgs false
set_option maxRecDepth 100000
noncomputable def fldsOf (T : TypeId) : List TypeId := match tau.und T with | some (.struct fds) => fds.toList.map (·.type) | _ => []
theorem tyL_of {τ : Tab} {n : Nat} : ∀ (ts : List TypeId) (ps : List PV), ts.length = ps.length → (∀ (i : Nat) (t : TypeId) (q : PV), ts[i]? = some t → ps[i]? = some q → Ty τ n t q) → TyL τ n ts ps
  | [], [], _, _ => trivial
  | t :: ts, p :: ps, hl, h => ⟨h 0 t p rfl rfl, tyL_of ts ps (by simpa using hl) fun i t q h1 h2 => h (i + 1) t q (by simpa using h1) (by simpa using h2)⟩
  | [], _ :: _, hl, _ => by simp at hl
  | _ :: _, [], hl, _ => by simp at hl
theorem tyL_cons {τ : Tab} {n : Nat} {t : TypeId} {ts : List TypeId} {ps : List PV} (h : TyL τ n (t :: ts) ps) : ∃ p r, ps = p :: r ∧ Ty τ n t p ∧ TyL τ n ts r := by
  cases ps with
  | nil => exact h.elim
  | cons p r => exact ⟨p, r, rfl, h.1, h.2⟩
theorem tyL_nil {τ : Tab} {n : Nat} {ps : List PV} (h : TyL τ n [] ps) : ps = [] := by
  cases ps with
  | nil => rfl
  | cons p r => exact h.elim
theorem ty_fields {n : Nat} {T : TypeId} {tys : List TypeId} {p : PV} (hc : fldsOf T = tys) (hne : tys ≠ []) (h : Ty tau (n + 1) T p) : ∃ fs, p = .st T fs ∧ TyL tau n tys fs := by
  unfold fldsOf at hc
  split at hc
  · rename_i fds hu
    obtain ⟨fs, rfl, hl, hf⟩ := ty_struct hu h
    refine ⟨fs, rfl, tyL_of tys fs (by rw [← hc]; simpa using hl.symm) fun i t q h1 h2 => ?_⟩
    rw [← hc, List.getElem?_map] at h1
    rw [Array.getElem?_toList] at h1
    cases hfi : fds[i]? with
    | none => rw [hfi] at h1; cases h1
    | some f =>
      rw [hfi] at h1
      obtain rfl := Option.some.inj h1
      exact hf i f q hfi h2
  · exact absurd hc.symm hne
theorem ty_i64 {n : Nat} {p : PV} (h : Ty tau (n + 1) 3 p) : ∃ x, p = .sc (.int .i64 x) ∧ i64B x = true := by
  have u : tau.und 3 = some (.int .i64) := by kernel_rfl
  obtain ⟨x, rfl, hx⟩ := ty_int u h
  refine ⟨x, rfl, ?_⟩
  have e1 : IntKind.i64.min = -9223372036854775808 := rfl
  have e2 : IntKind.i64.max = 9223372036854775807 := rfl
  simp only [Lit.wf, e1, e2, Bool.and_eq_true, decide_eq_true_eq] at hx
  simp only [i64B, Bool.and_eq_true, decide_eq_true_eq]
  omega
theorem ty_two {n : Nat} {T : TypeId} {p : PV} (hc : fldsOf T = [3, 3]) (h : Ty tau (n + 2) T p) : ∃ x y, p = .st T [.sc (.int .i64 x), .sc (.int .i64 y)] := by
  obtain ⟨fs, rfl, hf⟩ := ty_fields (n := n + 1) hc (List.cons_ne_nil _ _) h
  obtain ⟨p, q, rfl, h1, h2⟩ := tyL2 hf
  obtain ⟨x, rfl, _⟩ := ty_i64 h1
  obtain ⟨y, rfl, _⟩ := ty_i64 h2
  exact ⟨x, y, rfl⟩
theorem ty_bodies {n : Nat} {p : PV} (h : Ty tau (n + 3) 47 p) : ∃ z b, p = .ro 29 z false b ∧ (z = true → b = []) ∧ b.length ≤ maxLen ∧ b.all (PV.isRo 5) = true ∧ allInt .u8 (flat b) = true := by
  have u : tau.und 47 = some (.slice 29) := by kernel_rfl
  obtain ⟨z, b, rfl, hz, hl, hb⟩ := ty_slice u h
  obtain ⟨r1, r2⟩ := ty_rows b hb
  exact ⟨z, b, rfl, hz, hl, r1, r2⟩
theorem ty_msg {n : Nat} {p : PV} (h : Ty tau (n + 4) 54 p) : ∃ kd fr to wh wn cd cu ve co ad au su er z b,
    p = .st 54 [.sc (.int .i64 kd), .sc (.int .i64 fr), .sc (.int .i64 to), .st 34 [.sc (.int .i64 wh), .sc (.int .i64 wn)], .st 45 [.sc (.int .i64 cd), .sc (.int .i64 cu)], .sc (.int .i64 ve), .sc (.int .i64 co), .st 45 [.sc (.int .i64 ad), .sc (.int .i64 au)], .sc (.int .i64 su), .sc (.int .i64 er), .ro 29 z false b] ∧
    b.all (PV.isRo 5) = true ∧ allInt .u8 (flat b) = true ∧ b.length ≤ maxLen ∧ (z = true → b = []) := by
  have c1 : fldsOf 54 = [3, 3, 3, 34, 45, 3, 3, 45, 3, 3, 47] := by kernel_rfl
  have c2 : fldsOf 34 = [3, 3] := by kernel_rfl
  have c3 : fldsOf 45 = [3, 3] := by kernel_rfl
  obtain ⟨fs, rfl, hf⟩ := ty_fields (n := n + 3) c1 (List.cons_ne_nil _ _) h
  obtain ⟨p0, fs, rfl, h0, hf⟩ := tyL_cons hf
  obtain ⟨p1, fs, rfl, h1, hf⟩ := tyL_cons hf
  obtain ⟨p2, fs, rfl, h2, hf⟩ := tyL_cons hf
  obtain ⟨p3, fs, rfl, h3, hf⟩ := tyL_cons hf
  obtain ⟨p4, fs, rfl, h4, hf⟩ := tyL_cons hf
  obtain ⟨p5, fs, rfl, h5, hf⟩ := tyL_cons hf
  obtain ⟨p6, fs, rfl, h6, hf⟩ := tyL_cons hf
  obtain ⟨p7, fs, rfl, h7, hf⟩ := tyL_cons hf
  obtain ⟨p8, fs, rfl, h8, hf⟩ := tyL_cons hf
  obtain ⟨p9, fs, rfl, h9, hf⟩ := tyL_cons hf
  obtain ⟨p10, fs, rfl, h10, hf⟩ := tyL_cons hf
  obtain rfl := tyL_nil hf
  obtain ⟨kd, rfl, _⟩ := ty_i64 h0
  obtain ⟨fr, rfl, _⟩ := ty_i64 h1
  obtain ⟨to, rfl, _⟩ := ty_i64 h2
  obtain ⟨wh, wn, rfl⟩ := ty_two c2 h3
  obtain ⟨cd, cu, rfl⟩ := ty_two c3 h4
  obtain ⟨ve, rfl, _⟩ := ty_i64 h5
  obtain ⟨co, rfl, _⟩ := ty_i64 h6
  obtain ⟨ad, au, rfl⟩ := ty_two c3 h7
  obtain ⟨su, rfl, _⟩ := ty_i64 h8
  obtain ⟨er, rfl, _⟩ := ty_i64 h9
  obtain ⟨z, b, rfl, hz, hl, r1, r2⟩ := ty_bodies h10
  exact ⟨kd, fr, to, wh, wn, cd, cu, ve, co, ad, au, su, er, z, b, rfl, r1, r2, hl, hz⟩
theorem few_rOk {l : List PV} (h1 : l.all (PV.isRo 5) = true) (h2 : allInt .u8 (flat l) = true) (h : fewB l = true) : rOk (gB l) = true := by
  rw [fewB_eq, Bool.and_eq_true, decide_eq_true_eq] at h
  rw [gB_eq]
  refine rOk_iff.2 ⟨?_, ?_, fun p hp => ?_, by simp; omega⟩
  · exact List.all_eq_true.2 fun p hp => List.all_eq_true.1 h1 p (List.mem_of_mem_take hp)
  · have : flat l = flat (l.take 4) ++ flat (l.drop 4) := by rw [← flat_append, List.take_append_drop]
    rw [this, allInt_append, Bool.and_eq_true] at h2
    exact h2.1
  · have := List.all_eq_true.1 h.1 p (List.mem_of_mem_take hp)
    have : p.els.length ≤ 200 := by simpa using this
    omega
theorem few_small {l : List PV} (h : fewB l = true) : (∀ p ∈ gB l, p.els.length ≤ 200) ∧ (gB l).length ≤ 4 := by
  rw [fewB_eq, Bool.and_eq_true, decide_eq_true_eq] at h
  rw [gB_eq]
  refine ⟨fun p hp => ?_, by simp; omega⟩
  have := List.all_eq_true.1 h.1 p (List.mem_of_mem_take hp)
  simpa using this
end Go.Proofs.Ytcklhipdldpkhaa.Rx

/- What a message's bytes are read as. Own work. -/
namespace Go.Proofs.Ytcklhipdldpkhaa.Rx
open Go
set_option linter.unusedVariables false
set_option linter.unusedSimpArgs false
set_option maxRecDepth 100000
set_option maxHeartbeats 1000000
theorem sumP_by (bs : List Int) : ∀ x ∈ sumP bs, 0 ≤ x ∧ x < 256 := by
  intro x hx
  rw [sumP_eq] at hx
  obtain ⟨i, _, rfl⟩ := List.mem_map.1 hx
  exact wrap_by _
theorem macP_by (k t : List Int) : ∀ x ∈ macP k t, 0 ≤ x ∧ x < 256 := by rw [macP_eq]; exact sumP_by _
theorem wB_all (w : WM) : ∀ x ∈ wB w, 0 ≤ x ∧ x < 256 := by
  intro x hx
  rw [wB_eq] at hx
  rcases List.mem_append.1 hx with h | h
  · exact wB_by w x h
  · exact macP_by _ _ x h
theorem byB_wB (w : WM) : byB (pu .u8 (wB w)) = true := byB_pu.2 (wB_all w)
theorem kOk0 (i : Nat) : kOk (kb i []) = true := kb_ok i rfl
theorem txL_all : ∀ (n : Nat) (s : RS), byB s.b = true → ∀ p ∈ txL n s, ∃ t : ByteArray, t.size ≤ 65535 ∧ p = bodyP t
  | 0, s, h, p, hp => by cases hp
  | n + 1, s, h, p, hp => by
      rcases List.mem_cons.1 hp with rfl | hp
      · exact ⟨_, txtV_size h, rfl⟩
      · exact txL_all n _ (byS_txt h) p hp
theorem txL_length : ∀ (n : Nat) (s : RS), (txL n s).length = n
  | 0, _ => rfl
  | n + 1, s => by simp [txL, txL_length n]
theorem rOk_bodies {l : List PV} (h : ∀ p ∈ l, ∃ t : ByteArray, t.size ≤ 65535 ∧ p = bodyP t) (hl : l.length ≤ 1000) : rOk l = true := by
  refine rOk_iff.2 ⟨?_, ?_, ?_, hl⟩
  · exact List.all_eq_true.2 fun p hp => by obtain ⟨t, _, rfl⟩ := h p hp; rfl
  · clear hl
    induction l with
    | nil => rfl
    | cons p ps ih =>
      obtain ⟨t, _, rfl⟩ := h p List.mem_cons_self
      rw [flat_cons, allInt_append, ih fun q hq => h q (List.mem_cons_of_mem _ hq), Bool.and_true]
      show allInt .u8 (ofBytes t) = true
      rw [ofBytes_pu]; simp
  · intro p hp
    obtain ⟨t, ht, rfl⟩ := h p hp
    show (ofBytes t).length ≤ _
    rw [ofBytes_len]; exact ht
theorem rOk_pbod {p : PA} (h : byB p.b = true) : rOk (pbod p) = true := by
  rw [pbod_eq]
  cases parE0 p == 0 with
  | false => rw [rOk_eq]; rfl
  | true =>
    rw [cond_true, bodL_eq]
    have h1 : byB (stepS 1 (fS 13 ⟨p.b, 0⟩)).b = true := byS_step (byS_fS (s := ⟨p.b, 0⟩) h 13) 1
    have h2 : byB (msgS ⟨p.b, 0⟩).b = true := by
      unfold msgS
      cases decide (cntS ⟨p.b, 0⟩ > 4) with
      | true => exact h1
      | false => exact h1
    have h3 : msgN ⟨p.b, 0⟩ ≤ 4 := by
      unfold msgN
      cases h4 : decide (cntS ⟨p.b, 0⟩ > 4) with
      | true => exact Nat.zero_le _
      | false =>
        simp only [decide_eq_false_iff_not] at h4
        rw [cond_false]; omega
    exact rOk_bodies (txL_all _ _ h2) (by rw [txL_length]; omega)
theorem wB_msgOk {ks : List PV} {c : C13} {b : List PV} (hn : ∀ x ∈ numsOf c, i64B x = true) (h1 : ∀ p ∈ b, p.els.length ≤ 200) (h2 : b.length ≤ 4) (k : List Int) : MsgOk (numsOf c) (b.map txB) (macP k (wB0 ⟨ks, c, b⟩)) where
  len := rfl
  num := fun n h => by
    have hl : n < (numsOf c).length := h
    rw [List.getD_eq_getElem?_getD, List.getElem?_eq_getElem hl]
    exact hn _ (List.getElem_mem hl)
  cnt := by rw [List.length_map]; exact h2
  txt := fun t ht => Nat.le_trans (txs_small h1 t ht) (by omega)
  sum := macP_length _ _
  sumB := macP_by _ _
theorem wB0_few {w : WM} (h1 : ∀ p ∈ w.b, p.els.length ≤ 200) (h2 : w.b.length ≤ 4) : (wB0 w).length ≤ 8160 := by
  have := textsB_len 200 (w.b.map txB) (txs_small h1)
  rw [List.length_map] at this
  have h5 : w.b.length * 202 ≤ 4 * 202 := Nat.mul_le_mul_right _ h2
  rw [wB0_length]; omega
theorem wB_pu (w : WM) : pu .u8 (wB w) = pu .u8 (msgB w.c.kd (numsOf w.c) (w.b.map txB)) ++ pu .u8 (macP (ints (keyF ⟨w.l, w.c.fr⟩)) (wB0 w)) := by rw [wB_eq, pu_append]; rfl
theorem parE_wB (l ks : List PV) (c : C13) (b : List PV) (hn : ∀ x ∈ numsOf c, i64B x = true) (h1 : ∀ p ∈ b, p.els.length ≤ 200) (h2 : b.length ≤ 4) :
    parE0 ⟨l, pu .u8 (wB ⟨ks, c, b⟩)⟩ = bif chk ⟨IntKind.u8.wrap c.kd, c.fr, c.to, c.wh, c.wn, c.cd, c.cu, c.ve, c.co, c.ad, c.au, c.su, c.er⟩ == 0 then (bif macP (ints (keyF ⟨l, c.fr⟩)) (wB0 ⟨ks, c, b⟩) == macP (ints (keyF ⟨ks, c.fr⟩)) (wB0 ⟨ks, c, b⟩) then 0 else 14) else chk ⟨IntKind.u8.wrap c.kd, c.fr, c.to, c.wh, c.wn, c.cd, c.cu, c.ve, c.co, c.ad, c.au, c.su, c.er⟩ := by
  have := parE_msg (l := l) (kd := c.kd) (wB_msgOk (ks := ks) hn h1 h2 (ints (keyF ⟨ks, c.fr⟩))) (wB0_few (w := ⟨ks, c, b⟩) h1 h2)
  rw [wB_pu]
  exact this
theorem good_nums (c : C13) : ∀ x ∈ numsOf ⟨goodF 0 c, goodF 1 c, goodF 2 c, goodF 3 c, goodF 4 c, goodF 5 c, goodF 6 c, goodF 7 c, goodF 8 c, goodF 9 c, goodF 10 c, goodF 11 c, goodF 12 c⟩, i64B x = true := by
  intro x hx
  simp only [numsOf, goodF_eq, goodF0, List.mem_cons, List.not_mem_nil, or_false] at hx
  simp only [i64B, Bool.and_eq_true, decide_eq_true_eq]
  omega
theorem chk_good (c : C13) : chk ⟨IntKind.u8.wrap (goodF 0 c), goodF 1 c, goodF 2 c, goodF 3 c, goodF 4 c, goodF 5 c, goodF 6 c, goodF 7 c, goodF 8 c, goodF 9 c, goodF 10 c, goodF 11 c, goodF 12 c⟩ = 0 := by
  rw [chk_eq]
  simp only [goodF_eq, goodF0, wrap_u8_eq, chk0]
  have hk : innB (IntKind.i64.wrap ((1 + c.kd % 5) % 256 - 1)) 4 = true := by
    rw [wrap_i64 (by omega) (by omega)]
    simp only [innB, Bool.and_eq_true, decide_eq_true_eq]; omega
  rw [hk, cond_true]
  refine bif_t ?_
  simp only [chkB, innB, Bool.and_eq_true, decide_eq_true_eq, Bool.not_eq_true', beq_eq_false_iff_ne]
  omega
theorem parE_good (l ks : List PV) (c : C13) (b : List PV) (h1 : ∀ p ∈ b, p.els.length ≤ 200) (h2 : b.length ≤ 4) :
    parE ⟨l, pu .u8 (wB ⟨ks, ⟨goodF 0 c, goodF 1 c, goodF 2 c, goodF 3 c, goodF 4 c, goodF 5 c, goodF 6 c, goodF 7 c, goodF 8 c, goodF 9 c, goodF 10 c, goodF 11 c, goodF 12 c⟩, b⟩)⟩ = bif macP (ints (keyF ⟨l, goodF 1 c⟩)) (wB0 ⟨ks, ⟨goodF 0 c, goodF 1 c, goodF 2 c, goodF 3 c, goodF 4 c, goodF 5 c, goodF 6 c, goodF 7 c, goodF 8 c, goodF 9 c, goodF 10 c, goodF 11 c, goodF 12 c⟩, b⟩) == macP (ints (keyF ⟨ks, goodF 1 c⟩)) (wB0 ⟨ks, ⟨goodF 0 c, goodF 1 c, goodF 2 c, goodF 3 c, goodF 4 c, goodF 5 c, goodF 6 c, goodF 7 c, goodF 8 c, goodF 9 c, goodF 10 c, goodF 11 c, goodF 12 c⟩, b⟩) then 0 else 14 := by
  rw [parE_eq, parE_wB l ks _ b (good_nums c) h1 h2]
  show (bif chk ⟨IntKind.u8.wrap (goodF 0 c), goodF 1 c, goodF 2 c, goodF 3 c, goodF 4 c, goodF 5 c, goodF 6 c, goodF 7 c, goodF 8 c, goodF 9 c, goodF 10 c, goodF 11 c, goodF 12 c⟩ == 0 then _ else _) = _
  rw [chk_good]
  rfl
end Go.Proofs.Ytcklhipdldpkhaa.Rx

/- How long the slices are that are handed in. Own work. -/
namespace Go.Proofs.Ytcklhipdldpkhaa.Rx
open Go
open Go.ChangeShapes Go.WideShapes Go.ChangeAt Go.RowKit
set_option linter.unusedVariables false
section
variable {τ : Tab} {P : Program} (ok : TabOk τ P) {b0 : Nat} {W W' : World} {H : Type} {enc : TypeId × Value → H}
theorem repS_len {im : Im} {ow : Own} : ∀ (ps : List PV) (us : List Value), RepS τ im ow ps us → ∀ (j : Nat) e nl fl els, ps[j]? = some (.ro e nl fl els) → ∃ b c, us[j]? = some (.slice b els.length c)
  | [], us, h, j, e, nl, fl, els, hj => by simp at hj
  | p :: ps, us, h, j, e, nl, fl, els, hj => by
      simp only [RepS] at h
      obtain ⟨u, r, rfl, h1, h2⟩ := h
      cases j with
      | zero =>
        simp only [List.getElem?_cons_zero, Option.some.injEq] at hj
        subst hj
        simp only [RepV] at h1
        rcases h1 with ⟨_, rfl, h4⟩ | ⟨_, a, c, rfl, _⟩
        · exact ⟨none, 0, by simp [h4]⟩
        · exact ⟨some a, c, rfl⟩
      | succ j =>
        simp only [List.getElem?_cons_succ] at hj ⊢
        exact repS_len ps r h2 j e nl fl els hj
include ok
theorem law_walk_len (hs : τ.siz = P.cellsOf) {g : FuncId} {sg : Sig} (hc : CallOk τ P g sg) {m : Nat} {ts : List TypeId} {args : Array Value} {ds : List (DataW H)} {p : List MemPlace}
    (hrun : ∀ pvs, TyL τ m ts pvs → (∀ (j : Nat) e nl fl els, pvs[j]? = some (.ro e nl fl els) → ∃ b c, args.toList[j]? = some (.slice b els.length c)) → sg.run pvs [] some = some ⟨.sc (.bool true), [], []⟩)
    (ho : ∀ t ∈ ts, opens τ m t = true) (hv : ∀ (j : Nat) t v, ts[j]? = some t → args[j]? = some v → Value.okWide P W .any b0 t v) (h : DataW.TrodAll enc P W 0 (fun _ => true) true ts args.toList ds p) :
    Calls P g args W fun e W' => e = .returned (.bool true) ∧ Below W.heap.size W W' := by
  obtain ⟨pvs, h1, h2⟩ := args_val ok hs ts args.toList ds p ho (fun j t v a b => hv j t v a (by rw [← Array.getElem?_toList]; exact b)) h
  obtain ⟨r, hr, hcall⟩ := hc pvs [] some _ (by simp) (hrun pvs h1 (repS_len pvs args.toList h2))
  obtain rfl := Option.some.inj hr
  have hinv : Inv τ (imW W) nowhere (entsOf [] []) W := by
    refine ⟨fun b o hb => hb, fun i e he => ?_, fun i j b hl => ?_, fun i l hl => by cases hl⟩
    · simp [entsOf] at he
    · obtain ⟨e, l, g1, _⟩ := hl; simp [entsOf] at g1
  refine (hcall (imW W) nowhere W args h2 hinv).mono fun e W' ⟨u, im', ow', he, hu, G⟩ => ?_
  simp only [RepV] at hu
  refine ⟨by rw [he, hu.1], G.rest.1, G.rest.2.1, G.rest.2.2, G.size, fun k hk => ?_⟩
  have : W.heap[k]? = some W.heap[k] := Array.getElem?_eq_getElem hk
  rw [this]
  exact G.inv.imOk k _ (G.imX k _ this)
end
end Go.Proofs.Ytcklhipdldpkhaa.Rx

-- FN law16.WireKeys
/- WireKeys: a message that is signed by other keys is none, unless the document says that it is. Own work. -/
namespace Go.Proofs.Ytcklhipdldpkhaa.Rx
open Go
set_option linter.unusedVariables false
set_option linter.unusedSimpArgs false
set_option maxRecDepth 100000
set_option maxHeartbeats 2000000
theorem take_pu' (l : List Int) : List.take l.length (pu .u8 l) = pu .u8 l := List.take_of_length_le (by simp)
theorem g9_true (kd fr to wh wn cd cu ve co ad au su er : Int) (z f : Bool) (b : List PV) (kz kf : Bool) (key : List PV) (h1 : b.all (PV.isRo 5) = true) (h2 : allInt .u8 (flat b) = true) (h3 : b.length ≤ 9223372036854775807) (hk1 : allInt .u8 key = true) (hk2 : key.length ≤ 140737488351232) (k : Res → Option Res) : g9 0 kd fr to wh wn cd cu ve co ad au su er z f b kz kf key k = k ⟨.sc (.bool true), [], []⟩ := by
  unfold g9
  refine (bif_t (by rw [h1, Bool.true_and, Nat.ble_eq]; exact h3)).trans ?_
  cases hf : fewB b with
  | false => rfl
  | true =>
    have hr := few_rOk h1 h2 hf
    obtain ⟨q1, q2⟩ := few_small hf
    have hky : allInt .u8 (List.take (1 + key.length) (PV.sc (.int .u8 121) :: id key)) = true := by
      rw [List.take_of_length_le (by simp; omega)]
      show allInt .u8 (PV.sc (.int .u8 121) :: key) = true
      have : allInt .u8 (PV.sc (.int .u8 121) :: key) = (PV.isInt .u8 (PV.sc (.int .u8 121)) && allInt .u8 key) := rfl
      rw [this, hk1]; rfl
    have hkO : ∀ i, kOk (kb i (List.take (1 + key.length) (PV.sc (.int .u8 121) :: id key))) = true := fun i => kb_ok i hky
    have hP : q9_0 kd fr to wh wn cd cu ve co ad au su er b key = ⟨[.ro 5 false false (kb 0 []), .ro 5 false false (kb 1 []), .ro 5 false false (kb 2 [])], pu .u8 (wB ⟨[.ro 5 false false (kb 0 (List.take (1 + key.length) (PV.sc (.int .u8 121) :: id key))), .ro 5 false false (kb 1 (List.take (1 + key.length) (PV.sc (.int .u8 121) :: id key))), .ro 5 false false (kb 2 (List.take (1 + key.length) (PV.sc (.int .u8 121) :: id key)))], ⟨goodF 0 ⟨kd, fr, to, wh, wn, cd, cu, ve, co, ad, au, su, er⟩, goodF 1 ⟨kd, fr, to, wh, wn, cd, cu, ve, co, ad, au, su, er⟩, goodF 2 ⟨kd, fr, to, wh, wn, cd, cu, ve, co, ad, au, su, er⟩, goodF 3 ⟨kd, fr, to, wh, wn, cd, cu, ve, co, ad, au, su, er⟩, goodF 4 ⟨kd, fr, to, wh, wn, cd, cu, ve, co, ad, au, su, er⟩, goodF 5 ⟨kd, fr, to, wh, wn, cd, cu, ve, co, ad, au, su, er⟩, goodF 6 ⟨kd, fr, to, wh, wn, cd, cu, ve, co, ad, au, su, er⟩, goodF 7 ⟨kd, fr, to, wh, wn, cd, cu, ve, co, ad, au, su, er⟩, goodF 8 ⟨kd, fr, to, wh, wn, cd, cu, ve, co, ad, au, su, er⟩, goodF 9 ⟨kd, fr, to, wh, wn, cd, cu, ve, co, ad, au, su, er⟩, goodF 10 ⟨kd, fr, to, wh, wn, cd, cu, ve, co, ad, au, su, er⟩, goodF 11 ⟨kd, fr, to, wh, wn, cd, cu, ve, co, ad, au, su, er⟩, goodF 12 ⟨kd, fr, to, wh, wn, cd, cu, ve, co, ad, au, su, er⟩⟩, gB b⟩)⟩ := by
      show PA.mk _ (List.take (wB ⟨[.ro 5 false false (kb 0 (List.take (1 + key.length) (PV.sc (.int .u8 121) :: id key))), .ro 5 false false (kb 1 (List.take (1 + key.length) (PV.sc (.int .u8 121) :: id key))), .ro 5 false false (kb 2 (List.take (1 + key.length) (PV.sc (.int .u8 121) :: id key)))], ⟨goodF 0 ⟨kd, fr, to, wh, wn, cd, cu, ve, co, ad, au, su, er⟩, goodF 1 ⟨kd, fr, to, wh, wn, cd, cu, ve, co, ad, au, su, er⟩, goodF 2 ⟨kd, fr, to, wh, wn, cd, cu, ve, co, ad, au, su, er⟩, goodF 3 ⟨kd, fr, to, wh, wn, cd, cu, ve, co, ad, au, su, er⟩, goodF 4 ⟨kd, fr, to, wh, wn, cd, cu, ve, co, ad, au, su, er⟩, goodF 5 ⟨kd, fr, to, wh, wn, cd, cu, ve, co, ad, au, su, er⟩, goodF 6 ⟨kd, fr, to, wh, wn, cd, cu, ve, co, ad, au, su, er⟩, goodF 7 ⟨kd, fr, to, wh, wn, cd, cu, ve, co, ad, au, su, er⟩, goodF 8 ⟨kd, fr, to, wh, wn, cd, cu, ve, co, ad, au, su, er⟩, goodF 9 ⟨kd, fr, to, wh, wn, cd, cu, ve, co, ad, au, su, er⟩, goodF 10 ⟨kd, fr, to, wh, wn, cd, cu, ve, co, ad, au, su, er⟩, goodF 11 ⟨kd, fr, to, wh, wn, cd, cu, ve, co, ad, au, su, er⟩, goodF 12 ⟨kd, fr, to, wh, wn, cd, cu, ve, co, ad, au, su, er⟩⟩, gB b⟩).length (pu .u8 (wB ⟨[.ro 5 false false (kb 0 (List.take (1 + key.length) (PV.sc (.int .u8 121) :: id key))), .ro 5 false false (kb 1 (List.take (1 + key.length) (PV.sc (.int .u8 121) :: id key))), .ro 5 false false (kb 2 (List.take (1 + key.length) (PV.sc (.int .u8 121) :: id key)))], ⟨goodF 0 ⟨kd, fr, to, wh, wn, cd, cu, ve, co, ad, au, su, er⟩, goodF 1 ⟨kd, fr, to, wh, wn, cd, cu, ve, co, ad, au, su, er⟩, goodF 2 ⟨kd, fr, to, wh, wn, cd, cu, ve, co, ad, au, su, er⟩, goodF 3 ⟨kd, fr, to, wh, wn, cd, cu, ve, co, ad, au, su, er⟩, goodF 4 ⟨kd, fr, to, wh, wn, cd, cu, ve, co, ad, au, su, er⟩, goodF 5 ⟨kd, fr, to, wh, wn, cd, cu, ve, co, ad, au, su, er⟩, goodF 6 ⟨kd, fr, to, wh, wn, cd, cu, ve, co, ad, au, su, er⟩, goodF 7 ⟨kd, fr, to, wh, wn, cd, cu, ve, co, ad, au, su, er⟩, goodF 8 ⟨kd, fr, to, wh, wn, cd, cu, ve, co, ad, au, su, er⟩, goodF 9 ⟨kd, fr, to, wh, wn, cd, cu, ve, co, ad, au, su, er⟩, goodF 10 ⟨kd, fr, to, wh, wn, cd, cu, ve, co, ad, au, su, er⟩, goodF 11 ⟨kd, fr, to, wh, wn, cd, cu, ve, co, ad, au, su, er⟩, goodF 12 ⟨kd, fr, to, wh, wn, cd, cu, ve, co, ad, au, su, er⟩⟩, gB b⟩))) = _
      rw [take_pu']
    have hE := parE_good [.ro 5 false false (kb 0 []), .ro 5 false false (kb 1 []), .ro 5 false false (kb 2 [])] [.ro 5 false false (kb 0 (List.take (1 + key.length) (PV.sc (.int .u8 121) :: id key))), .ro 5 false false (kb 1 (List.take (1 + key.length) (PV.sc (.int .u8 121) :: id key))), .ro 5 false false (kb 2 (List.take (1 + key.length) (PV.sc (.int .u8 121) :: id key)))] ⟨kd, fr, to, wh, wn, cd, cu, ve, co, ad, au, su, er⟩ (gB b) q1 q2
    rw [← hP] at hE
    have hb : byB (pu .u8 (q9_1 kd fr to wh wn cd cu ve co ad au su er b key)) = true := byB_wB _
    have hpb : rOk (pbod (q9_0 kd fr to wh wn cd cu ve co ad au su er b key)) = true := by rw [hP]; exact rOk_pbod (byB_wB _)
    have hsl : slB (Ent.vec false 5 false (pu .u8 (q9_1 kd fr to wh wn cd cu ve co ad au su er b key))).nil (pu .u8 (q9_1 kd fr to wh wn cd cu ve co ad au su er b key)) = true := by
      have := wB0_small (w := ⟨[.ro 5 false false (kb 0 (List.take (1 + key.length) (PV.sc (.int .u8 121) :: id key))), .ro 5 false false (kb 1 (List.take (1 + key.length) (PV.sc (.int .u8 121) :: id key))), .ro 5 false false (kb 2 (List.take (1 + key.length) (PV.sc (.int .u8 121) :: id key)))], ⟨goodF 0 ⟨kd, fr, to, wh, wn, cd, cu, ve, co, ad, au, su, er⟩, goodF 1 ⟨kd, fr, to, wh, wn, cd, cu, ve, co, ad, au, su, er⟩, goodF 2 ⟨kd, fr, to, wh, wn, cd, cu, ve, co, ad, au, su, er⟩, goodF 3 ⟨kd, fr, to, wh, wn, cd, cu, ve, co, ad, au, su, er⟩, goodF 4 ⟨kd, fr, to, wh, wn, cd, cu, ve, co, ad, au, su, er⟩, goodF 5 ⟨kd, fr, to, wh, wn, cd, cu, ve, co, ad, au, su, er⟩, goodF 6 ⟨kd, fr, to, wh, wn, cd, cu, ve, co, ad, au, su, er⟩, goodF 7 ⟨kd, fr, to, wh, wn, cd, cu, ve, co, ad, au, su, er⟩, goodF 8 ⟨kd, fr, to, wh, wn, cd, cu, ve, co, ad, au, su, er⟩, goodF 9 ⟨kd, fr, to, wh, wn, cd, cu, ve, co, ad, au, su, er⟩, goodF 10 ⟨kd, fr, to, wh, wn, cd, cu, ve, co, ad, au, su, er⟩, goodF 11 ⟨kd, fr, to, wh, wn, cd, cu, ve, co, ad, au, su, er⟩, goodF 12 ⟨kd, fr, to, wh, wn, cd, cu, ve, co, ad, au, su, er⟩⟩, gB b⟩) hr
      exact slB_iff.2 ⟨fun h => (by cases h), by
        show (pu .u8 (wB ⟨[.ro 5 false false (kb 0 (List.take (1 + key.length) (PV.sc (.int .u8 121) :: id key))), .ro 5 false false (kb 1 (List.take (1 + key.length) (PV.sc (.int .u8 121) :: id key))), .ro 5 false false (kb 2 (List.take (1 + key.length) (PV.sc (.int .u8 121) :: id key)))], ⟨goodF 0 ⟨kd, fr, to, wh, wn, cd, cu, ve, co, ad, au, su, er⟩, goodF 1 ⟨kd, fr, to, wh, wn, cd, cu, ve, co, ad, au, su, er⟩, goodF 2 ⟨kd, fr, to, wh, wn, cd, cu, ve, co, ad, au, su, er⟩, goodF 3 ⟨kd, fr, to, wh, wn, cd, cu, ve, co, ad, au, su, er⟩, goodF 4 ⟨kd, fr, to, wh, wn, cd, cu, ve, co, ad, au, su, er⟩, goodF 5 ⟨kd, fr, to, wh, wn, cd, cu, ve, co, ad, au, su, er⟩, goodF 6 ⟨kd, fr, to, wh, wn, cd, cu, ve, co, ad, au, su, er⟩, goodF 7 ⟨kd, fr, to, wh, wn, cd, cu, ve, co, ad, au, su, er⟩, goodF 8 ⟨kd, fr, to, wh, wn, cd, cu, ve, co, ad, au, su, er⟩, goodF 9 ⟨kd, fr, to, wh, wn, cd, cu, ve, co, ad, au, su, er⟩, goodF 10 ⟨kd, fr, to, wh, wn, cd, cu, ve, co, ad, au, su, er⟩, goodF 11 ⟨kd, fr, to, wh, wn, cd, cu, ve, co, ad, au, su, er⟩, goodF 12 ⟨kd, fr, to, wh, wn, cd, cu, ve, co, ad, au, su, er⟩⟩, gB b⟩)).length ≤ _
        rw [pu_length, wB_length]; omega⟩
    have htk := take_pu' (q9_1 kd fr to wh wn cd cu ve co ad au su er b key)
    simp only [List.drop_zero, htk]
    refine (bif_f rfl).trans ((bif_t (by simp only [roomy, Nat.mul_one, Bool.and_true, decide_eq_true_eq]; omega)).trans ((bif_t (by rw [hr, hkO, hkO, hkO]; rfl)).trans ((bif_t (by rw [hsl, hb, kOk0, kOk0, kOk0]; rfl)).trans ((bif_t (by rw [hb, kOk0, kOk0, kOk0]; rfl)).trans ((bif_t (by simp)).trans ((bif_t (by rw [hpb]; rfl)).trans ((bif_t (sameM_self _)).trans ?_)))))))
    cases hm : (macP (ints (keyF ⟨[.ro 5 false false (kb 0 []), .ro 5 false false (kb 1 []), .ro 5 false false (kb 2 [])], goodF 1 ⟨kd, fr, to, wh, wn, cd, cu, ve, co, ad, au, su, er⟩⟩)) (wB0 ⟨[.ro 5 false false (kb 0 (List.take (1 + key.length) (PV.sc (.int .u8 121) :: id key))), .ro 5 false false (kb 1 (List.take (1 + key.length) (PV.sc (.int .u8 121) :: id key))), .ro 5 false false (kb 2 (List.take (1 + key.length) (PV.sc (.int .u8 121) :: id key)))], ⟨goodF 0 ⟨kd, fr, to, wh, wn, cd, cu, ve, co, ad, au, su, er⟩, goodF 1 ⟨kd, fr, to, wh, wn, cd, cu, ve, co, ad, au, su, er⟩, goodF 2 ⟨kd, fr, to, wh, wn, cd, cu, ve, co, ad, au, su, er⟩, goodF 3 ⟨kd, fr, to, wh, wn, cd, cu, ve, co, ad, au, su, er⟩, goodF 4 ⟨kd, fr, to, wh, wn, cd, cu, ve, co, ad, au, su, er⟩, goodF 5 ⟨kd, fr, to, wh, wn, cd, cu, ve, co, ad, au, su, er⟩, goodF 6 ⟨kd, fr, to, wh, wn, cd, cu, ve, co, ad, au, su, er⟩, goodF 7 ⟨kd, fr, to, wh, wn, cd, cu, ve, co, ad, au, su, er⟩, goodF 8 ⟨kd, fr, to, wh, wn, cd, cu, ve, co, ad, au, su, er⟩, goodF 9 ⟨kd, fr, to, wh, wn, cd, cu, ve, co, ad, au, su, er⟩, goodF 10 ⟨kd, fr, to, wh, wn, cd, cu, ve, co, ad, au, su, er⟩, goodF 11 ⟨kd, fr, to, wh, wn, cd, cu, ve, co, ad, au, su, er⟩, goodF 12 ⟨kd, fr, to, wh, wn, cd, cu, ve, co, ad, au, su, er⟩⟩, gB b⟩) == macP (ints (keyF ⟨[.ro 5 false false (kb 0 (List.take (1 + key.length) (PV.sc (.int .u8 121) :: id key))), .ro 5 false false (kb 1 (List.take (1 + key.length) (PV.sc (.int .u8 121) :: id key))), .ro 5 false false (kb 2 (List.take (1 + key.length) (PV.sc (.int .u8 121) :: id key)))], goodF 1 ⟨kd, fr, to, wh, wn, cd, cu, ve, co, ad, au, su, er⟩⟩)) (wB0 ⟨[.ro 5 false false (kb 0 (List.take (1 + key.length) (PV.sc (.int .u8 121) :: id key))), .ro 5 false false (kb 1 (List.take (1 + key.length) (PV.sc (.int .u8 121) :: id key))), .ro 5 false false (kb 2 (List.take (1 + key.length) (PV.sc (.int .u8 121) :: id key)))], ⟨goodF 0 ⟨kd, fr, to, wh, wn, cd, cu, ve, co, ad, au, su, er⟩, goodF 1 ⟨kd, fr, to, wh, wn, cd, cu, ve, co, ad, au, su, er⟩, goodF 2 ⟨kd, fr, to, wh, wn, cd, cu, ve, co, ad, au, su, er⟩, goodF 3 ⟨kd, fr, to, wh, wn, cd, cu, ve, co, ad, au, su, er⟩, goodF 4 ⟨kd, fr, to, wh, wn, cd, cu, ve, co, ad, au, su, er⟩, goodF 5 ⟨kd, fr, to, wh, wn, cd, cu, ve, co, ad, au, su, er⟩, goodF 6 ⟨kd, fr, to, wh, wn, cd, cu, ve, co, ad, au, su, er⟩, goodF 7 ⟨kd, fr, to, wh, wn, cd, cu, ve, co, ad, au, su, er⟩, goodF 8 ⟨kd, fr, to, wh, wn, cd, cu, ve, co, ad, au, su, er⟩, goodF 9 ⟨kd, fr, to, wh, wn, cd, cu, ve, co, ad, au, su, er⟩, goodF 10 ⟨kd, fr, to, wh, wn, cd, cu, ve, co, ad, au, su, er⟩, goodF 11 ⟨kd, fr, to, wh, wn, cd, cu, ve, co, ad, au, su, er⟩, goodF 12 ⟨kd, fr, to, wh, wn, cd, cu, ve, co, ad, au, su, er⟩⟩, gB b⟩)) with
    | true =>
      rw [hm, cond_true] at hE
      rw [hE]; rfl
    | false =>
      rw [hm, cond_false] at hE
      rw [hE]; rfl
noncomputable def run9' : List PV → List Ent → (Res → Option Res) → Option Res
  | [.st 54 [.sc (.int .i64 kd), .sc (.int .i64 fr), .sc (.int .i64 to), .st 34 [.sc (.int .i64 wh), .sc (.int .i64 wn)], .st 45 [.sc (.int .i64 cd), .sc (.int .i64 cu)], .sc (.int .i64 ve), .sc (.int .i64 co), .st 45 [.sc (.int .i64 ad), .sc (.int .i64 au)], .sc (.int .i64 su), .sc (.int .i64 er), .ro 29 z f b], .ro 5 kz kf key], [], k => bif (b.all (PV.isRo 5) && (allInt .u8 (flat b) && decide (b.length ≤ 9223372036854775807))) && (allInt .u8 key && decide (key.length ≤ 140737488351232)) then k ⟨.sc (.bool true), [], []⟩ else none
  | _, _, _ => none
noncomputable def s9' : Sig := { own := [], run := run9' }
theorem ok9' : CallOk tau Try.prog 9 s9' := CallOk.mk' fun xs es k res hl hr => by
  change run9' xs es k = some res at hr
  unfold run9' at hr
  split at hr
  · rename_i kd fr to wh wn cd cu ve co ad au su er z f b kz kf key
    obtain ⟨hc, hr⟩ := of_bif hr
    simp only [Bool.and_eq_true, decide_eq_true_eq] at hc
    exact fn_at tabOk F9_ok mixed fo9 bo9 an9 [.ro] 0 0 (ia9 0) hl rfl ((e9 0 kd fr to wh wn cd cu ve co ad au su er z f b kz kf key k).trans ((g9_true kd fr to wh wn cd cu ve co ad au su er z f b kz kf key hc.1.1 hc.1.2.1 hc.1.2.2 hc.2.1 hc.2.2 k).trans hr))
  · cases hr
theorem run9_true : ∀ pvs, TyL tau 4 [54, 29] pvs → (∀ e nl fl els, pvs[1]? = some (.ro e nl fl els) → els.length ≤ 140737488351232) → s9'.run pvs [] some = some ⟨.sc (.bool true), [], []⟩ := by
  intro pvs h hlen
  obtain ⟨p, q, rfl, h1, h2⟩ := tyL2 h
  have u1 : tau.und 29 = some (.slice 5) := by kernel_rfl
  have u2 : tau.und 5 = some (.int .u8) := by kernel_rfl
  obtain ⟨kd, fr, to, wh, wn, cd, cu, ve, co, ad, au, su, er, z, b, rfl, r1, r2, r3, _⟩ := ty_msg (n := 0) h1
  obtain ⟨kz, key, rfl, _, _, t1⟩ := ty_slice u1 h2
  have hk := hlen _ _ _ _ rfl
  have hm : maxLen ≤ 9223372036854775807 := by decide
  exact bif_t (by rw [r1, r2, decide_eq_true (Nat.le_trans r3 hm), ty_ints u2 key t1, decide_eq_true hk]; rfl)
end Go.Proofs.Ytcklhipdldpkhaa.Rx
